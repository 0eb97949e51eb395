/-
  Plain laws: the reference's bounds, kind by kind, are the pr
-/
import Derived.Test.YtnkkokmmeplbgaaGreatB18
import Derived.Test.YtnkkokmmeplbgaaGreatC2
import Derived.Test.YtnkkokmmeplbgaaGreatC4
import Derived.Test.YtnkkokmmeplbgaaGreatB15
import Derived.Test.YtnkkokmmeplbgaaGreatB23
namespace Go.Proofs.YtnkkokmmeplbgaaGreat
set_option maxRecDepth 100000
set_option maxHeartbeats 1000000
open Go.RowKit
theorem Qj6:∀(l:List Tk) (last p:Int),Q2 last l=true→63<p→QeG l p=0
 |[],_,_,_,_=>rfl
 |x::r,last,p,h,hp=>by
  obtain⟨h1,h2⟩:=Wn.1 h
  have:=Y7.1 h1
  rw[XZ,if_neg (by omega)];exact Qj6 r x.1 p h2 hp
theorem Qmv {a b:List Tk}(ha:Q2 (-1) a=true)(hb:Q2 (-1) b=true):QpP a b=true↔cle a b:=by
 unfold QpP QhI
 rw[List.all_eq_true,ha,hb]
 constructor
 ·intro h p
  by_cases h1:p ≤ -1
  ·rw[QaP a (-1) p ha h1,QaP b (-1) p hb h1];exact Int.le_refl _
  by_cases h2:63<p
  ·rw[Qj6 a (-1) p ha h2,Qj6 b (-1) p hb h2];exact Int.le_refl _
  obtain⟨n,rfl⟩:∃n:Nat,p=n:=⟨p.toNat,by omega⟩
  simpa using h n (List.mem_range.2 (by omega))
 intro h n _
 simpa using h n
theorem Qe9 {a b:List Tk}(ha:Q2 (-1) a=true)(hb:Q2 (-1) b=true):Wt a b=true↔cle a b∧¬cle b a:=by
 unfold Wt
 rw[ha,hb]
 simp only[Bool.true_and,Bool.and_eq_true,Bool.not_eq_true',←Bool.not_eq_true,Qmv ha hb,Qmv hb ha]
def QcE (l:List En)(p:En×Nat):Bool := !((p.1.1.length:Int)==0)&&Q2 (-1) p.1.1&&XU p.1.2 && !(decide ((p.2:Int) > 0)&&(match l[p.2-1]? with|some y=>decide (JV y p.1≥0)|none=>false))&&l.all fun f => !Wt p.1.1 f.1
theorem Qus (l:List En):l.zipIdx.all (QcE l)=QkH l:=by
 rw[Bool.eq_iff_iff]
 constructor
 ·intro h
  have h':∀k x,l[k]?=some x→x.1≠[]∧Q2 (-1) x.1=true∧XU x.2=true∧(∀y,0<k→l[k-1]?=some y→JV y x<0)∧∀y∈l,Wt x.1 y.1=false:=by
   intro k x hx
   have hr:=List.all_eq_true.1 h (x,k) (List.mem_of_getElem? (Jr hx))
   unfold QcE at hr
   simp only[Bool.and_eq_true,Bool.not_eq_true',List.all_eq_true,and_assoc] at hr
   obtain⟨r1,r2,r3,r4,r5⟩:=hr;refine⟨fun e=>by simp[e] at r1,r2,r3,fun y hk hy=>?_,r5⟩;have h0:((k:Int) > 0):=by omega
   rw[hy] at r4
   simp only[h0,decide_true,Bool.true_and,decide_eq_false_iff_not] at r4
   omega
  have hj:∀x∈l,∃j:Nat,l[j]?=some x:=fun x hx=>List.mem_iff_getElem?.1 hx
  have hv:∀x∈l,Q2 (-1) x.1=true:=fun x hx=>by obtain⟨j,hj⟩:=hj x hx;exact(h' j x hj).2.1
  refine YJ.regB_ ⟨hv,fun x hx=>?_,fun x hx=>?_,?_,fun x hx y hy hlt=>?_⟩
  ·obtain⟨j,hj⟩:=hj x hx;exact(h' j x hj).1
  ·obtain⟨j,hj⟩:=hj x hx;exact(h' j x hj).2.2.1
  ·exact Qag l (fun j e d he hd=>(h' (j+1) e he).2.2.2.1 d (by omega) hd)
  obtain⟨j,hj⟩:=hj x hx
  have:=(h' j x hj).2.2.2.2 y hy
  rw[(Qe9 (hv x hx) (hv y hy)).2 hlt] at this
  cases this
 intro h
 have ho:=YJ.of h
 rw[List.all_eq_true];intro p hp;obtain⟨k,hk⟩:=List.mem_iff_getElem?.1 hp
 have h2:=(List.getElem?_eq_some_iff.1 hk).1
 rw[Qfx] at h2
 have h3:=Jr (List.getElem?_eq_getElem h2)
 rw[hk] at h3
 cases h3
 have hm:l[k]∈l:=List.getElem_mem h2
 have hr:=(QhC (List.getElem?_eq_getElem h2)).1 (QkA.1 h k _ (List.getElem?_eq_getElem h2))
 have hb:∀y∈l,Wt l[k].1 y.1=false:=fun y hy=>by
  cases hb:Wt l[k].1 y.1
  ·rfl
  exact absurd ((Qe9 (ho.valid _ hm) (ho.valid y hy)).1 hb) (ho.anti _ hm y hy)
 unfold QcE
 simp only[Bool.and_eq_true,Bool.not_eq_true',List.all_eq_true,and_assoc]
 refine⟨?_,hr.2.1,hr.2.2.1,?_,hb⟩
 ·have:=hr.1
  cases hc:l[k].1 with
  |nil=>exact absurd hc this
  |cons a r=>simp;omega
 by_cases hk0:0<k
 ·have h1:l[k-1]?=some l[k-1]:=List.getElem?_eq_getElem (by omega)
  have:=hr.2.2.2.1 _ hk0 h1
  rw[h1]
  simp;omega
 simp[hk0]
def Qc4 (p q:En):Bool:=p.2==q.2&&decide (p.1=q.1)||Wt p.1 q.1
theorem Qjv {p q:En}(hp:Q2 (-1) p.1=true)(hq:Q2 (-1) q.1=true):Qc4 p q=Qdc p q:=by
 rw[Bool.eq_iff_iff,QeU hp hq]
 unfold Qc4 leE ltE
 rw[Bool.or_eq_true,Qe9 hp hq]
 simp only[Bool.and_eq_true,beq_iff_eq,decide_eq_true_eq]
 constructor
 ·rintro(⟨h1,h2⟩|h)
  ·exact .inr (Prod.ext h2 h1)
  exact .inl h
 rintro(h|rfl)
 ·exact .inr h
 exact .inl ⟨rfl,rfl⟩
def Qr3 (l:List En)(p:En):Bool:=l.any (Qc4 p)
theorem Qqg {l:List En}{p:En}(hp:Q2 (-1) p.1=true)(hl:∀y∈l,Q2 (-1) y.1=true):Qr3 l p=J9 l p:=by
 unfold Qr3 J9
 rw[Bool.eq_iff_iff,List.any_eq_true,List.any_eq_true];exact⟨fun⟨y,hy,h⟩=>⟨y,hy,by rwa [←Qjv hp (hl y hy)]⟩,fun⟨y,hy,h⟩=>⟨y,hy,by rwa [Qjv hp (hl y hy)]⟩⟩
theorem WV (only l:List Nm):FC Tryz.prog 143 [Jz only,Jz l] (bl (Ji only l)):=by
 refine Qg [4] Tryz.func143 rfl rfl 34 Tryz.ntmps143 (Nat.le_of_ble_eq_true rfl) ?_
 intro E hN;refine Jq 1 rfl (fun hl1=>?_);refine XR ?_;refine Qq (fun x:{k:Nat // k≤(l).length∧(l.drop k).all (YR only)=l.all (YR only)}=>⟨[(0,Jz only),(1,Jz l),(5,i64 (x.1:Nat))],[],0⟩) (fun x=>(l).length-x.1) (⟨0,Nat.zero_le _,by simp⟩) ?_ ?_
 ·exact Qa rfl (YG trivial) trivial
 rintro⟨k,hk,hg⟩;dsimp only;refine Jl ?_
 refine zq ?_ ?_<;>intro h6
 rotate_left
 ·have hge:(l).length≤k:=by simpa using h6
  refine QK ?_;refine zP (Qd (Qn5 l) rfl rfl rfl) ?_;refine zS ?_;refine zQ ?_;exact Qr (by rw[Ji,Jf hg hge,Bool.and_true])
 have hlt:k<(l).length:=by simpa using h6
 obtain⟨x,hx⟩:=Qw hlt;refine Xy ?_;refine zP (Qh rfl rfl rfl k rfl _ (Qt hx) rfl) ?_;refine zL ?_;refine zP (Qd (Qhx x) rfl rfl rfl) ?_;refine QR ?_
 refine zc 18 ?_ ?_<;>intro h9
 ·refine Qfe ?_;refine zQ ?_;exact Qr (by rw[Ji,Xe hg hx (by simp_all [YR])];simp)
 refine QK ?_
 refine zc 22 ?_ ?_<;>intro h11
 rotate_left
 ·refine Xy ?_;refine uP (X3 (m1 (n0 h9))) (XG rfl rfl h11 rfl) ?_;refine Jl ?_;refine Qc ?_;exact⟨⟨k+1,hlt,XO hg hx (by simp_all [YR])⟩,Qa rfl (Yw ⟨JC,rfl,trivial⟩) trivial,by dsimp only;omega⟩
 refine QI ?_;refine uP (XT h11) (Qh rfl rfl rfl k rfl _ (Qt hx) rfl) ?_;refine Yy ?_;refine uP (XT h11) (Qd (Qht only x) rfl rfl rfl) ?_;refine Yy ?_;refine uP (X3 (m1 (n0 h9))) (XK rfl rfl h11 rfl) ?_;refine QR ?_
 refine zq ?_ ?_<;>intro h14
 ·refine QI ?_;refine zQ ?_;exact Qr (by rw[Ji,Xe hg hx (by simp_all [YR])];simp)
 refine QL ?_;refine Qc ?_;exact⟨⟨k+1,hlt,XO hg hx (by simp_all [YR])⟩,Qa rfl (Yw ⟨JC,rfl,trivial⟩) trivial,by dsimp only;omega⟩
theorem Qnz (rs:List Ru)(l:List Nm)(hi:∀r∈rs,r.i.length≤1000000):FC Tryz.prog 145 [rus rs,Jz l] (bl (Qai rs l)):=by
 refine Qg [4] Tryz.func145 rfl rfl 29 Tryz.ntmps145 (Nat.le_of_ble_eq_true rfl) ?_
 intro E hN;refine Jq 0 rfl (fun hl0=>?_);refine XR ?_;refine Qq (fun x:{k:Nat // k≤(rs).length∧(rs.drop k).all (W4 l)=rs.all (W4 l)}=>⟨[(0,rus rs),(1,Jz l),(5,i64 (x.1:Nat))],[],0⟩) (fun x=>(rs).length-x.1) (⟨0,Nat.zero_le _,by simp⟩) ?_ ?_
 ·exact Qa rfl (YG trivial) trivial
 rintro⟨k,hk,hg⟩;dsimp only;refine Jl ?_
 refine zq ?_ ?_<;>intro h6
 rotate_left
 ·have hge:(rs).length≤k:=by simpa using h6
  refine QK ?_;refine zQ ?_;exact Qr (Jf hg hge).symm
 have hlt:k<(rs).length:=by simpa using h6
 obtain⟨x,hx⟩:=Qw hlt;refine Xy ?_;refine zP (Qh rfl rfl rfl k rfl _ (Qt hx) rfl) ?_;refine QI ?_;refine zP (Qd (Qfi x.i l (hi x (List.mem_of_getElem? hx))) rfl rfl rfl) ?_;refine zM ?_
 refine zc 19 ?_ ?_<;>intro h10
 rotate_left
 ·refine QbP ?_;refine Qc ?_;exact⟨⟨k+1,hlt,XO hg hx (by simp_all [W4])⟩,Qa rfl (Yw ⟨JC,rfl,trivial⟩) trivial,by dsimp only;omega⟩
 refine QI ?_;refine uP (XT h10) (Qh rfl rfl rfl k rfl _ (Qt hx) rfl) ?_;refine QR ?_;refine uP (XT h10) (Qd (Qht l x.t) rfl rfl rfl) ?_;refine QI ?_
 refine zq ?_ ?_<;>intro h14
 ·refine QI ?_;refine zQ ?_;exact Qr (Xe hg hx (by simp_all [W4])).symm
 refine QL ?_;refine Qc ?_;exact⟨⟨k+1,hlt,XO hg hx (by simp_all [W4])⟩,Qa rfl (Yw ⟨JC,rfl,trivial⟩) trivial,by dsimp only;omega⟩
theorem Ql6 (l:List En):FC Tryz.prog 144 [ens l] (bl (QkH l)):=by
 refine Qg [2] Tryz.func144 rfl rfl 68 Tryz.ntmps144 (Nat.le_of_ble_eq_true rfl) ?_
 intro E hN;refine Jq 0 rfl (fun hl0=>?_);rw[←Qus l];refine XR ?_;refine Qq (fun x:{k:Nat // k≤(l).length∧(l.zipIdx.drop k).all (QcE l)=l.zipIdx.all (QcE l)}=>⟨[(0,ens l),(3,i64 (x.1:Nat))],[],0⟩) (fun x=>(l).length-x.1) (⟨0,Nat.zero_le _,by simp⟩) ?_ ?_
 ·exact Qa rfl (Yw trivial) trivial
 rintro⟨k,hk,hg⟩;dsimp only;refine Jl ?_
 refine zq ?_ ?_<;>intro h5
 rotate_left
 ·have hge:(l).length≤k:=by simpa using h5
  refine QK ?_;refine zQ ?_;exact Qr (Jf hg (by rw[Qfx];exact hge)).symm
 have hlt:k<(l).length:=by simpa using h5
 obtain⟨x,hx⟩:=Qw hlt;refine Jl ?_;refine zP (Qh rfl rfl rfl k rfl _ (Qt hx) rfl) ?_;refine QL ?_
 refine zc 18 ?_ ?_<;>intro h10
 ·refine QpI ?_;refine zQ ?_;exact Qr (Xe hg (Jr hx) (by unfold QcE;simp_all)).symm
 refine QR ?_;refine uP (X3 h10) (Qh rfl rfl rfl k rfl _ (Qt hx) rfl) ?_;refine QR ?_;refine uP (X3 h10) (Qd (Qdm _) rfl rfl rfl) ?_;refine QI ?_
 refine zc 27 ?_ ?_<;>intro h14
 ·refine Qbp ?_;refine zQ ?_;exact Qr (Xe hg (Jr hx) (by unfold QcE;simp_all)).symm
 refine QR ?_;refine uP (X3 (m1 (n0 h14))) (Qh rfl rfl rfl k rfl _ (Qt hx) rfl) ?_;refine QR ?_;refine uP (X3 (m1 (n0 h14))) (Qd (Qhx _) rfl rfl rfl) ?_;refine QI ?_
 refine zq ?_ ?_<;>intro h18
 ·refine QI ?_;refine zQ ?_;exact Qr (Xe hg (Jr hx) (by unfold QcE;simp_all)).symm
 refine QI ?_;refine zD 14 ?_;refine QI ?_
 refine zd 38 ?_ ?_<;>intro h19
 rotate_left
 ·refine Qf2 ?_;refine Qq (fun x1:{j:Nat // j≤l.length∧(l.drop j).all (fun f => !Wt x.1 f.1)=l.all (fun f => !Wt x.1 f.1)}=>⟨[(0,ens l),(3,i64 (k:Nat)),(4,i64 (x1.1:Nat))],[],0⟩) (fun x1=>l.length-x1.1) (⟨0,Nat.zero_le _,by simp⟩) ?_ ?_
  ·exact Qa rfl (YG trivial) trivial
  rintro⟨j,hj,hgj⟩;dsimp only;refine Jl ?_
  refine zq ?_ ?_<;>intro h45
  rotate_left
  ·have hgej:l.length≤j:=by simpa using h45
   have hA:=Jf hgj hgej
   refine QL ?_;refine Qc ?_;exact⟨⟨k+1,hlt,XO hg (Jr hx) (by unfold QcE;rw[hA];simp_all)⟩,Qa rfl (X2 ⟨JC,rfl,trivial⟩) trivial,by dsimp only;omega⟩
  have hltj:j<l.length:=by simpa using h45
  obtain⟨y2,hy2⟩:=Qw hltj;refine QK ?_;refine zD 10 ?_;refine QR ?_;refine zp (Qh rfl rfl rfl k rfl _ (Qt hx) rfl) ?_;refine QK ?_;refine zp (Qh rfl rfl rfl j rfl _ (Qt hy2) rfl) ?_;refine QR ?_;refine zP (Qd (Qeq _ _) rfl rfl rfl) ?_;refine zN ?_
  refine zq ?_ ?_<;>intro h52
  ·refine QI ?_;refine zQ ?_;exact Qr (Xe hg (Jr hx) (by unfold QcE;rw[Xe hgj hy2 (by simp_all)];simp)).symm
  refine QL ?_;refine Qc ?_;exact⟨⟨j+1,hltj,XO hgj hy2 (by simp_all)⟩,Qa rfl (Yw ⟨JC,rfl,trivial⟩) trivial,by dsimp only;omega⟩
 have hk0:0<k:=by simpa using h19
 obtain⟨y,hy⟩:=Qw (show k-1<l.length by omega);refine QR ?_;refine vP (XT h19) (KV rfl rfl rfl (by omega)) ?_;refine vP (XT h19) (Qh rfl rfl rfl (k-1) (by omega) _ (Qt hy) rfl) ?_;refine QI ?_;refine vP (XT h19) (Qh rfl rfl rfl k rfl _ (Qt hx) rfl) ?_;refine Yy ?_;refine vP (XT h19) (Qd (Qj0 y x) rfl rfl rfl) ?_;refine QI ?_
 refine zq ?_ ?_<;>intro h26
 ·refine QI ?_;refine zQ ?_;exact Qr (Xe hg (Jr hx) (by unfold QcE;simp_all)).symm
 refine XL ?_;refine Qq (fun x1:{j:Nat // j≤l.length∧(l.drop j).all (fun f => !Wt x.1 f.1)=l.all (fun f => !Wt x.1 f.1)}=>⟨[(0,ens l),(3,i64 (k:Nat)),(4,i64 (x1.1:Nat))],[],0⟩) (fun x1=>l.length-x1.1) (⟨0,Nat.zero_le _,by simp⟩) ?_ ?_
 ·exact Qa rfl (YG trivial) trivial
 rintro⟨j,hj,hgj⟩;dsimp only;refine Jl ?_
 refine zq ?_ ?_<;>intro h31
 rotate_left
 ·have hgej:l.length≤j:=by simpa using h31
  have hA:=Jf hgj hgej
  refine QL ?_;refine Qc ?_;exact⟨⟨k+1,hlt,XO hg (Jr hx) (by unfold QcE;rw[hA];simp_all)⟩,Qa rfl (X2 ⟨JC,rfl,trivial⟩) trivial,by dsimp only;omega⟩
 have hltj:j<l.length:=by simpa using h31
 obtain⟨y2,hy2⟩:=Qw hltj;refine QK ?_;refine zD 10 ?_;refine QR ?_;refine zp (Qh rfl rfl rfl k rfl _ (Qt hx) rfl) ?_;refine QK ?_;refine zp (Qh rfl rfl rfl j rfl _ (Qt hy2) rfl) ?_;refine QR ?_;refine zP (Qd (Qeq _ _) rfl rfl rfl) ?_;refine zN ?_
 refine zq ?_ ?_<;>intro h38
 ·refine QI ?_;refine zQ ?_;exact Qr (Xe hg (Jr hx) (by unfold QcE;rw[Xe hgj hy2 (by simp_all)];simp)).symm
 refine QL ?_;refine Qc ?_;exact⟨⟨j+1,hltj,XO hgj hy2 (by simp_all)⟩,Qa rfl (Yw ⟨JC,rfl,trivial⟩) trivial,by dsimp only;omega⟩
theorem QuV (l:Qv)(hp:l.ps.length≤64)(ih:∀p∈l.ps,FC Tryz.prog 106 [.agg (Q7 p)] (.agg (QO (Qy p)))):FC Tryz.prog 106 [.agg (Q7 l)] (.agg (QO (Qy l))):=by
 refine Km [.c 2 30 4 true] ⟨⟨inferInstance,rfl⟩,trivial⟩ Tryz.func106 rfl rfl 40 Tryz.ntmps106 (Nat.le_of_ble_eq_true rfl) ?_
 intro E hN;refine Qvv ?_
 refine zq ?_ ?_<;>intro h9
 ·refine X5 ?_;refine Qu ?_;change (resY _ _).bind AV.fzt=some _;refine Yl rfl ?_;rw[JM];refine QiS (Q1 ?_) rfl ?_ rfl
  ·simp_all [Qz.N]
  first|(simp_all [Qz.ps];done)|(refine Qfb ?_;simp_all [Qz.ps,List.take_of_length_le])
 refine QL ?_
 refine zq ?_ ?_<;>intro h16
 ·refine X5 ?_;refine Qu ?_;change (resY _ _).bind AV.fzt=some _;refine Yl rfl ?_;rw[JM];refine QiS (Q1 ?_) rfl ?_ rfl
  ·simp_all [Qz.N]
  first|(simp_all [Qz.ps];done)|(refine Qfb ?_;simp_all [Qz.ps,List.take_of_length_le])
 refine XL ?_
 refine zq ?_ ?_<;>intro h23
 ·refine Xy ?_;refine QC (Kx rfl 2 2 30 4 rfl rfl rfl) ?_
  refine Qq (fun x:{k:Nat // k≤(l.ps).length∧True}=>⟨[(1,.ptr 0 0),(2,.ptr 1 0),(3,.ptr 2 0),(4,i64 (x.1:Nat))],[(0,.var 26 (Q7 l)),(1,.var 30 [i64 0,.p (.slice none 0 0),.p (.slice none 0 0),.p (.slice none 0 0)]),(2,.var 30 [i64 0,.p (.slice none 0 0),.sl (((l.ps.take x.1).map Qy).map Ym) (some 3),.p (.slice none 0 0)]),(3,.tok 30 4 ((l.ps.take x.1).map Qy).length)],4⟩) (fun x=>(l.ps).length-x.1) (⟨0,Nat.zero_le _,by simp⟩) ?_ ?_
  ·exact Qa rfl (Ks trivial) ⟨rfl,rfl,rfl,rfl,rfl,rfl,rfl,rfl,rfl,rfl,rfl,rfl,trivial⟩
  rintro⟨k,hk,hg⟩;dsimp only;refine J6 ?_
  refine zq ?_ ?_<;>intro h31
  rotate_left
  ·have hge:(l.ps).length≤k:=by simpa using h31
   refine XL ?_;refine Qu ?_;change (resY _ _).bind AV.fzt=some _;refine Yl rfl ?_;rw[JM];refine QiS (Q1 ?_) rfl ?_ rfl
   ·simp_all [Qz.N]
   first|(simp_all [Qz.ps];done)|(refine Qfb ?_;simp_all [Qz.ps,List.take_of_length_le])
  have hlt:k<(l.ps).length:=by simpa using h31
  obtain⟨x,hx⟩:=Qw hlt;refine QI ?_;refine zD 9 ?_;refine QL ?_;refine zp (Qh rfl rfl rfl k rfl _ (X9 hx) rfl) ?_;refine zl ?_;refine zp (Qd (ih x (List.mem_of_getElem? hx)) rfl rfl rfl) ?_;refine zp (Q0 rfl rfl rfl rfl (by exact rfl) (by decide) (by decide)) ?_;refine Xp hN rfl rfl rfl (by simp) rfl rfl (QN XS _) rfl (by simp[Yk];omega) rfl rfl rfl rfl ?_;refine Xy ?_;refine Qc ?_
  exact⟨⟨k+1,hlt,trivial⟩,Qa rfl (YG ⟨JC,rfl,trivial⟩) ⟨rfl,rfl,rfl,rfl,rfl,rfl,(cgV (QfU hx)),rfl,rfl,(cgT (by simp[Yk];omega)),rfl,rfl,trivial⟩,by dsimp only;omega⟩
 refine QK ?_
 refine zq ?_ ?_<;>intro h46
 rotate_left
 ·refine XL ?_;refine Qu ?_;change (resY _ _).bind AV.fzt=some _;refine Yl rfl ?_;rw[JM];refine QiS (Q1 ?_) rfl ?_ rfl
  ·simp_all [Qz.N]
  first|(simp_all [Qz.ps];done)|(refine Qfb ?_;simp_all [Qz.ps,List.take_of_length_le])
 refine QL ?_;refine QC (Kx rfl 2 2 30 4 rfl rfl rfl) ?_
 refine Qq (fun x:{k:Nat // k≤(l.ps).length∧True}=>⟨[(1,.ptr 0 0),(2,.ptr 1 0),(3,.ptr 2 0),(4,i64 (x.1:Nat))],[(0,.var 26 (Q7 l)),(1,.var 30 [i64 0,.p (.slice none 0 0),.p (.slice none 0 0),.p (.slice none 0 0)]),(2,.var 30 [i64 0,.p (.slice none 0 0),.sl (((l.ps.take x.1).map Qy).map Ym) (some 3),.p (.slice none 0 0)]),(3,.tok 30 4 ((l.ps.take x.1).map Qy).length)],4⟩) (fun x=>(l.ps).length-x.1) (⟨0,Nat.zero_le _,by simp⟩) ?_ ?_
 ·exact Qa rfl (Ks trivial) ⟨rfl,rfl,rfl,rfl,rfl,rfl,rfl,rfl,rfl,rfl,rfl,rfl,trivial⟩
 rintro⟨k,hk,hg⟩;dsimp only;refine J6 ?_
 refine zq ?_ ?_<;>intro h54
 rotate_left
 ·have hge:(l.ps).length≤k:=by simpa using h54
  refine XL ?_;refine Qu ?_;change (resY _ _).bind AV.fzt=some _;refine Yl rfl ?_;rw[JM];refine QiS (Q1 ?_) rfl ?_ rfl
  ·simp_all [Qz.N]
  first|(simp_all [Qz.ps];done)|(refine Qfb ?_;simp_all [Qz.ps,List.take_of_length_le])
 have hlt:k<(l.ps).length:=by simpa using h54
 obtain⟨x,hx⟩:=Qw hlt;refine QI ?_;refine zD 9 ?_;refine QL ?_;refine zp (Qh rfl rfl rfl k rfl _ (X9 hx) rfl) ?_;refine zl ?_;refine zp (Qd (ih x (List.mem_of_getElem? hx)) rfl rfl rfl) ?_;refine zp (Q0 rfl rfl rfl rfl (by exact rfl) (by decide) (by decide)) ?_;refine Xp hN rfl rfl rfl (by simp) rfl rfl (QN XS _) rfl (by simp[Yk];omega) rfl rfl rfl rfl ?_;refine Xy ?_;refine Qc ?_
 exact⟨⟨k+1,hlt,trivial⟩,Qa rfl (YG ⟨JC,rfl,trivial⟩) ⟨rfl,rfl,rfl,rfl,rfl,rfl,(cgV (QfU hx)),rfl,rfl,(cgT (by simp[Yk];omega)),rfl,rfl,trivial⟩,by dsimp only;omega⟩
theorem Qjp (l:Qv)(h:Yv l):FC Tryz.prog 106 [.agg (Q7 l)] (.agg (QO (Qy l))):=QuV l h.small (fun p hp=>Qjp p (h.part p hp))
termination_by l
decreasing_by exact Qv.sizeOf_ps ‹_›
end Go.Proofs.YtnkkokmmeplbgaaGreat
namespace Go.Proofs.YtnkkokmmeplbgaaGreat
open Go.RowKit
section
variable {l:Qv}{a b:Qz}
end
section
variable {rs:List Ru}{t:List Nm}{u:List Int}
end
end Go.Proofs.YtnkkokmmeplbgaaGreat
