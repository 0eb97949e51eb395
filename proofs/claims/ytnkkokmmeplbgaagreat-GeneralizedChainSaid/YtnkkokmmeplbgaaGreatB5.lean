/-
  Contracts: uses of values' fields, allowed and closed names,
-/
import Derived.Test.YtnkkokmmeplbgaaGreatB4
import Derived.Test.YtnkkokmmeplbgaaGreatA3
namespace Go.Proofs.YtnkkokmmeplbgaaGreat
set_option maxRecDepth 100000
set_option maxHeartbeats 1000000
open Go.RowKit
def Xf (v:Qz)(n li pa en:Bool):Bool:=(n||v.N==0)&&(li||(v.nm.length:Int)==0)&&(pa||(v.ps.length:Int)==0)&&(en||(v.es.length:Int)==0)
def YR (only:List Nm)(s:Nm):Bool:=XU s && !(decide ((only.length:Int) > 0) && !JL only s)
def Ji (only l:List Nm):Bool:=QF l&&l.all (YR only)
def W4 (l:List Nm)(r:Ru):Bool := !(Yu r.i l && !JL l r.t)
def Qai (rs:List Ru)(l:List Nm):Bool:=rs.all (W4 l)
def Qeg (last:Int)(t:Tk):Bool := !(decide (t.1≤last)||decide (t.1 > 63)||decide (t.2<1)||decide (t.2 > 1000000000000000))
def Q2:Int→List Tk→Bool
 |_,[]=>true
 |last,t::r=>Qeg last t&&Q2 t.1 r
theorem QoB {l:List Tk}{k:Nat}{last:Int}{x:Tk}{b:Bool}(hg:Q2 last (l.drop k)=b)(hx:l[k]?=some x):b=(Qeg last x&&Q2 x.1 (l.drop (k+1))):=by
 rw[←hg,XI hx];rfl
theorem QwV {l:List Tk}{k:Nat}{last:Int}{b:Bool}(hg:Q2 last (l.drop k)=b)(h:l.length≤k):b=true:=by
 rw[←hg,List.drop_of_length_le h];rfl
def QeG (l:List Tk)(p:Int):Int:=match l.find? (fun t=>t.1==p) with|some t=>t.2|none=>0
def QhI (l:List Tk)(p:Int):Int:=if Q2 (-1) l then QeG l p else 0
def QdC (p k:Int)(l:List Tk):List Tk:=if k > 0 then(p,k)::l else l
def Qbl (ch:Int→Int→Int):Nat→List Tk→List Tk→List Tk
 |0,_,_=>[]
 |_+1,[],[]=>[]
 |f+1,x::r,[]=>QdC x.1 (ch x.2 0) (Qbl ch f r [])
 |f+1,[],y::s=>QdC y.1 (ch 0 y.2) (Qbl ch f [] s)
 |f+1,x::r,y::s=>if x.1<y.1 then QdC x.1 (ch x.2 0) (Qbl ch f r (y::s)) else if y.1<x.1 then QdC y.1 (ch 0 y.2) (Qbl ch f (x::r) s) else QdC x.1 (ch x.2 y.2) (Qbl ch f r s)
theorem Yp (ch:Int→Int→Int):∀(f g:Nat) (a b:List Tk),a.length+b.length≤f→a.length+b.length≤g→Qbl ch f a b=Qbl ch g a b
 |0,0,_,_,_,_=>rfl
 |0,g+1,a,b,h1,_=>by
  have ha:a=[]:=List.eq_nil_of_length_eq_zero (by omega)
  have hb:b=[]:=List.eq_nil_of_length_eq_zero (by omega)
  subst ha hb;rfl
 |f+1,0,a,b,_,h2=>by
  have ha:a=[]:=List.eq_nil_of_length_eq_zero (by omega)
  have hb:b=[]:=List.eq_nil_of_length_eq_zero (by omega)
  subst ha hb;rfl
 |f+1,g+1,[],[],_,_=>rfl
 |f+1,g+1,x::r,[],h1,h2=>by simp only[List.length_cons,List.length_nil] at h1 h2;simp only[Qbl];rw[Yp ch f g r [] (by simp;omega) (by simp;omega)]
 |f+1,g+1,[],y::s,h1,h2=>by simp only[List.length_cons,List.length_nil] at h1 h2;simp only[Qbl];rw[Yp ch f g [] s (by simp;omega) (by simp;omega)]
 |f+1,g+1,x::r,y::s,h1,h2=>by
  simp only[List.length_cons] at h1 h2
  simp only[Qbl]
  rw[Yp ch f g r (y::s) (by simp;omega) (by simp;omega),Yp ch f g (x::r) s (by simp;omega) (by simp;omega),Yp ch f g r s (by omega) (by omega)]
def Wx (ch:Int→Int→Int)(a b:List Tk):List Tk:=Qbl ch (a.length+b.length) a b
section
variable {ch:Int→Int→Int}{x y:Tk}{r s:List Tk}
theorem Qwc:Wx ch (x::r) []=QdC x.1 (ch x.2 0) (Wx ch r []):=by
 show Qbl ch (r.length+1+0) (x::r) []=_
 rfl
theorem Qw5:Wx ch [] (y::s)=QdC y.1 (ch 0 y.2) (Wx ch [] s):=by
 unfold Wx
 rw[Yp ch _ (s.length+1) [] (y::s) (by simp) (by simp),Yp ch _ s.length [] s (by simp) (by simp)]
 rfl
theorem QtE (h:x.1<y.1):Wx ch (x::r) (y::s)=QdC x.1 (ch x.2 0) (Wx ch r (y::s)):=by
 unfold Wx
 rw[Yp ch _ (r.length+(s.length+1)+1) (x::r) (y::s) (Nat.le_refl _) (by simp only[List.length_cons];omega),Qbl,if_pos h]
 rfl
theorem QtJ (h:¬x.1<y.1)(h2:y.1<x.1):Wx ch (x::r) (y::s)=QdC y.1 (ch 0 y.2) (Wx ch (x::r) s):=by
 unfold Wx
 rw[Yp ch _ (r.length+1+s.length+1) (x::r) (y::s) (Nat.le_refl _) (by simp only[List.length_cons];omega),Qbl,if_neg h,if_pos h2]
 rfl
theorem Qs3 (h:¬x.1<y.1)(h2:¬y.1<x.1):Wx ch (x::r) (y::s)=QdC x.1 (ch x.2 y.2) (Wx ch r s):=by
 unfold Wx
 rw[Yp ch _ (r.length+s.length+1+1) (x::r) (y::s) (Nat.le_refl _) (by simp only[List.length_cons];omega),Qbl,if_neg h,if_neg h2,Yp ch _ (r.length+s.length) r s (by omega) (by omega)]
theorem QfD {p k:Int}{l acc u:List Tk}(h:decide (k > 0)=true)(hg:acc++QdC p k l=u):(acc++[(p,k)])++l=u:=by
 rw[←hg,QdC,if_pos (by simpa using h)];simp
theorem QhN {p k:Int}{l acc u:List Tk}(h:decide (k > 0)=false)(hg:acc++QdC p k l=u):acc++l=u:=by
 rw[←hg,QdC,if_neg (by simpa using h)]
end
theorem Xm (x y:AV):QT 2 1 [x,y]=[[x,y]]:=rfl
theorem Qff (t:Tk):okE 2 (tkC t)=true:=rfl
theorem Qte:∀(l:List Tk) (last:Int),Q2 last l=true→(l.length:Int)≤63-last∨l=[]
 |[],_,_=>.inr rfl
 |t::r,last,h=>by
  simp only[Q2,Qeg,Bool.and_eq_true,Bool.not_eq_true',Bool.or_eq_false_iff,decide_eq_false_iff_not] at h
  rcases Qte r t.1 h.2 with h1|h1
  ·left;simp only[List.length_cons];omega
  left;subst h1;simp only[List.length_cons,List.length_nil];omega
theorem QvO {l:List Tk}(h:Q2 (-1) l=true):l.length≤64:=by
 rcases Qte l _ h with h|h
 ·omega
 subst h;simp
def QjV (ch:Int→Int→Int)(a b:List Tk):List Tk:=if Q2 (-1) a&&Q2 (-1) b then Wx ch a b else[]
def Wi (m n:Int):Int:=if m > n then m else 0
def Qgy (a b:List Tk):List Tk:=QjV Wi a b
def QfI (a b:List Tk):Int:=if !(Q2 (-1) a&&Q2 (-1) b) then 3 else if (Qgy a b).length==0 then(if (Qgy b a).length==0 then 0 else 1) else if (Qgy b a).length==0 then 2 else 3
theorem W5 (v:Qz)(n li pa en:Bool):FC Tryz.prog 138 [.agg (QO v),bl n,bl li,bl pa,bl en] (bl (Xf v n li pa en)):=by
 refine Qg [10] Tryz.func138 rfl rfl 44 Tryz.ntmps138 (Nat.le_of_ble_eq_true rfl) ?_
 intro E hN;refine J6 ?_
 refine zc 12 ?_ ?_<;>intro h2
 ·refine Xy ?_
  refine zc 19 ?_ ?_<;>intro h3
  ·refine J6 ?_
   refine zc 28 ?_ ?_<;>intro h4
   ·refine J6 ?_
    refine zc 37 ?_ ?_<;>intro h5
    ·refine Xy ?_;refine zQ ?_;exact Qr (by simp_all [Xf])
    refine Xy ?_;refine zQ ?_;exact Qr (by simp_all [Xf])
   refine Xy ?_
   refine zc 35 ?_ ?_<;>intro h14
   rotate_left
   ·refine J6 ?_;refine zQ ?_;exact Qr (by simp_all [Xf])
   refine QR ?_
   refine zc 37 ?_ ?_<;>intro h5
   ·refine QK ?_;refine uP (XT h14) (XK rfl rfl h5 rfl) ?_;refine QR ?_;refine zQ ?_;exact Qr (by simp_all [Xf])
   refine QK ?_;refine uP (XT h14) (XG rfl rfl h5 rfl) ?_;refine QR ?_;refine zQ ?_;exact Qr (by simp_all [Xf])
  refine Xy ?_
  refine zc 26 ?_ ?_<;>intro h22
  rotate_left
  ·refine Qfe ?_;refine zQ ?_;exact Qr (by simp_all [Xf])
  refine QR ?_
  refine zc 28 ?_ ?_<;>intro h4
  ·refine QK ?_;refine uP (XT h22) (XK rfl rfl h4 rfl) ?_;refine QK ?_
   refine zc 37 ?_ ?_<;>intro h5
   ·refine Xy ?_;refine zQ ?_;exact Qr (by simp_all [Xf])
   refine Xy ?_;refine zQ ?_;exact Qr (by simp_all [Xf])
  refine QK ?_;refine uP (XT h22) (XG rfl rfl h4 rfl) ?_;refine QR ?_
  refine zc 35 ?_ ?_<;>intro h30
  rotate_left
  ·refine J6 ?_;refine zQ ?_;exact Qr (by simp_all [Xf])
  refine QR ?_
  refine zc 37 ?_ ?_<;>intro h5
  ·refine QK ?_;refine uP (XT h30) (XK rfl rfl h5 rfl) ?_;refine QR ?_;refine zQ ?_;exact Qr (by simp_all [Xf])
  refine QK ?_;refine uP (XT h30) (XG rfl rfl h5 rfl) ?_;refine QR ?_;refine zQ ?_;exact Qr (by simp_all [Xf])
 refine QL ?_
 refine zc 17 ?_ ?_<;>intro h37
 rotate_left
 ·refine Qha ?_;refine QI ?_;refine zQ ?_;exact Qr (by simp_all [Xf])
 refine QR ?_
 refine zc 19 ?_ ?_<;>intro h3
 ·refine QK ?_;refine uP (XT h37) (XK rfl rfl h3 rfl) ?_;refine QK ?_
  refine zc 28 ?_ ?_<;>intro h4
  ·refine J6 ?_
   refine zc 37 ?_ ?_<;>intro h5
   ·refine Xy ?_;refine zQ ?_;exact Qr (by simp_all [Xf])
   refine Xy ?_;refine zQ ?_;exact Qr (by simp_all [Xf])
  refine Xy ?_
  refine zc 35 ?_ ?_<;>intro h45
  rotate_left
  ·refine J6 ?_;refine zQ ?_;exact Qr (by simp_all [Xf])
  refine QR ?_
  refine zc 37 ?_ ?_<;>intro h5
  ·refine QK ?_;refine uP (XT h45) (XK rfl rfl h5 rfl) ?_;refine QR ?_;refine zQ ?_;exact Qr (by simp_all [Xf])
  refine QK ?_;refine uP (XT h45) (XG rfl rfl h5 rfl) ?_;refine QR ?_;refine zQ ?_;exact Qr (by simp_all [Xf])
 refine QK ?_;refine uP (XT h37) (XG rfl rfl h3 rfl) ?_;refine QR ?_
 refine zc 26 ?_ ?_<;>intro h53
 rotate_left
 ·refine Qfe ?_;refine zQ ?_;exact Qr (by simp_all [Xf])
 refine QR ?_
 refine zc 28 ?_ ?_<;>intro h4
 ·refine QK ?_;refine uP (XT h53) (XK rfl rfl h4 rfl) ?_;refine QK ?_
  refine zc 37 ?_ ?_<;>intro h5
  ·refine Xy ?_;refine zQ ?_;exact Qr (by simp_all [Xf])
  refine Xy ?_;refine zQ ?_;exact Qr (by simp_all [Xf])
 refine QK ?_;refine uP (XT h53) (XG rfl rfl h4 rfl) ?_;refine QR ?_
 refine zc 35 ?_ ?_<;>intro h61
 rotate_left
 ·refine J6 ?_;refine zQ ?_;exact Qr (by simp_all [Xf])
 refine QR ?_
 refine zc 37 ?_ ?_<;>intro h5
 ·refine QK ?_;refine uP (XT h61) (XK rfl rfl h5 rfl) ?_;refine QR ?_;refine zQ ?_;exact Qr (by simp_all [Xf])
 refine QK ?_;refine uP (XT h61) (XG rfl rfl h5 rfl) ?_;refine QR ?_;refine zQ ?_;exact Qr (by simp_all [Xf])
theorem Qdl (only l:List Nm):FC Tryz.prog 139 [Jz only,Jz l] (bl (Ji only l)):=by
 refine Qg [4] Tryz.func139 rfl rfl 31 Tryz.ntmps139 (Nat.le_of_ble_eq_true rfl) ?_
 intro E hN;refine Jq 1 rfl (fun hl1=>?_);refine Jl ?_;refine zP (Qd (Qbv l) rfl rfl rfl) ?_;refine QR ?_
 refine zq ?_ ?_<;>intro h3
 ·have h1:=h3
  refine QI ?_;refine zQ ?_;exact Qr (by simp_all [Ji])
 have h1:=h3
 refine J6 ?_;refine Qq (fun x:{k:Nat // k≤(l).length∧(l.drop k).all (YR only)=l.all (YR only)}=>⟨[(0,Jz only),(10,Jz l),(11,i64 l.length),(12,i64 (x.1:Nat))],[],0⟩) (fun x=>(l).length-x.1) (⟨0,Nat.zero_le _,by simp⟩) ?_ ?_
 ·exact Qa rfl (Yw ⟨(Y5 (by simp)),rfl,(X2 trivial)⟩) trivial
 rintro⟨k,hk,hg⟩;dsimp only;refine QL ?_
 refine zq ?_ ?_<;>intro h8
 rotate_left
 ·have hge:(l).length≤k:=by simpa using h8
  refine QK ?_;refine zQ ?_;exact Qr (by rw[Ji,Jf hg hge];simp_all)
 have hlt:k<(l).length:=by simpa using h8
 obtain⟨x,hx⟩:=Qw hlt;refine QL ?_;refine zP (Qh rfl rfl rfl k rfl _ (Qt hx) rfl) ?_;refine XL ?_;refine zP (Qd (QfR _) rfl rfl rfl) ?_;refine QR ?_
 refine zc 19 ?_ ?_<;>intro h11
 ·refine QgC ?_;refine zQ ?_;exact Qr (by rw[Ji,Xe hg hx (by simp_all [YR])];simp)
 refine QK ?_
 refine zc 23 ?_ ?_<;>intro h13
 ·refine QR ?_;refine uP (XT h13) (Qd (Qkl only _) rfl rfl rfl) ?_;refine Yy ?_;refine uP (X3 (m1 (n0 h11))) (XK rfl rfl h13 rfl) ?_;refine QR ?_
  refine zq ?_ ?_<;>intro h14
  ·refine QI ?_;refine zQ ?_;exact Qr (by rw[Ji,Xe hg hx (by simp_all [YR])];simp)
  refine QK ?_;refine Qc ?_;exact⟨⟨k+1,hlt,XO hg hx (by simp_all [YR])⟩,Qa rfl (YG ⟨JC,rfl,trivial⟩) trivial,by dsimp only;omega⟩
 refine QK ?_;refine uP (X3 (m1 (n0 h11))) (XG rfl rfl h13 rfl) ?_;refine Xy ?_;refine Qc ?_;exact⟨⟨k+1,hlt,XO hg hx (by simp_all [YR])⟩,Qa rfl (YG ⟨JC,rfl,trivial⟩) trivial,by dsimp only;omega⟩
theorem QqL (rs:List Ru)(l:List Nm):FC Tryz.prog 140 [rus rs,Jz l] (bl (Qai rs l)):=by
 refine Qg [4] Tryz.func140 rfl rfl 25 Tryz.ntmps140 (Nat.le_of_ble_eq_true rfl) ?_
 intro E hN;refine Jq 0 rfl (fun hl0=>?_);refine JF ?_;refine Qq (fun x:{k:Nat // k≤(rs).length∧(rs.drop k).all (W4 l)=rs.all (W4 l)}=>⟨[(1,Jz l),(7,rus rs),(8,i64 rs.length),(9,i64 (x.1:Nat))],[],0⟩) (fun x=>(rs).length-x.1) (⟨0,Nat.zero_le _,by simp⟩) ?_ ?_
 ·exact Qa rfl (Yw ⟨(Y5 (by simp)),rfl,(X2 trivial)⟩) trivial
 rintro⟨k,hk,hg⟩;dsimp only;refine QL ?_
 refine zq ?_ ?_<;>intro h7
 rotate_left
 ·have hge:(rs).length≤k:=by simpa using h7
  refine QK ?_;refine zQ ?_;exact Qr (Jf hg hge).symm
 have hlt:k<(rs).length:=by simpa using h7
 obtain⟨x,hx⟩:=Qw hlt;refine QL ?_;refine zP (Qh rfl rfl rfl k rfl _ (Qt hx) rfl) ?_;refine J6 ?_;refine zP (Qd (Qem _ l) rfl rfl rfl) ?_;refine zM ?_
 refine zc 17 ?_ ?_<;>intro h14
 rotate_left
 ·refine JF ?_;refine Qc ?_;exact⟨⟨k+1,hlt,XO hg hx (by simp_all [W4])⟩,Qa rfl (YG ⟨JC,rfl,trivial⟩) trivial,by dsimp only;omega⟩
 refine QI ?_;refine uP (XT h14) (Qd (Qkl l _) rfl rfl rfl) ?_;refine QI ?_
 refine zq ?_ ?_<;>intro h17
 ·refine QI ?_;refine zQ ?_;exact Qr (Xe hg hx (by simp_all [W4])).symm
 refine QK ?_;refine Qc ?_;exact⟨⟨k+1,hlt,XO hg hx (by simp_all [W4])⟩,Qa rfl (YG ⟨JC,rfl,trivial⟩) trivial,by dsimp only;omega⟩
theorem QcV (l:List Tk):FC Tryz.prog 173 [tks l] (bl (Q2 (-1) l)):=by
 refine Qg [2] Tryz.func173 rfl rfl 34 Tryz.ntmps173 (Nat.le_of_ble_eq_true rfl) ?_
 intro E hN;refine Jq 0 rfl (fun hl0=>?_);refine QbP ?_;refine Qq (fun x:{q:Nat×Int // q.1≤l.length∧Q2 q.2 (l.drop q.1)=Q2 (-1) l}=>⟨[(3,i64 x.1.2),(6,tks l),(7,i64 l.length),(8,i64 (x.1.1:Nat))],[],0⟩) (fun x=>l.length-x.1.1) (⟨(0,-1),Nat.zero_le _,by simp⟩) ?_ ?_
 ·exact Qa rfl (Yw ⟨(Y5 (by simp)),rfl,(X2 trivial)⟩) trivial
 rintro⟨⟨k,last⟩,hk,hg⟩;dsimp only at hk hg ⊢;refine QL ?_
 refine zq ?_ ?_<;>intro h7
 rotate_left
 ·have hge:(l).length≤k:=by simpa using h7
  refine QK ?_;refine zQ ?_;exact Qr (QwV hg hge).symm
 have hlt:k<(l).length:=by simpa using h7
 obtain⟨x,hx⟩:=Qw hlt
 have hs:=QoB hg hx
 refine QL ?_;refine zP (Qh rfl rfl rfl k rfl _ (Qt hx) rfl) ?_;refine JF ?_
 refine zc 16 ?_ ?_<;>intro h14
 ·refine QeV ?_;refine zQ ?_;exact Qr (by rw[hs];simp_all [Qeg])
 refine QL ?_
 refine zc 21 ?_ ?_<;>intro h17
 ·refine WT ?_;refine zQ ?_;exact Qr (by rw[hs];simp_all [Qeg])
 refine QL ?_
 refine zc 26 ?_ ?_<;>intro h20
 ·refine J6 ?_;refine zQ ?_;exact Qr (by rw[hs];simp_all [Qeg])
 refine QL ?_
 refine zq ?_ ?_<;>intro h23
 ·refine QI ?_;refine zQ ?_;exact Qr (by rw[hs];simp_all [Qeg])
 have hok:Qeg last x=true:=by simp_all [Qeg]
 refine J6 ?_;refine Qc ?_;exact⟨⟨(k+1,x.1),hlt,by rw[hs,hok];rfl⟩,Qa rfl (YG ⟨JC,rfl,trivial⟩) trivial,by dsimp only;omega⟩
theorem QuT {f:FuncId}[Xl Tryz.prog f]{ch:Int→Int→Int}(hc:∀m n,FC Tryz.prog f [i64 m,i64 n] (i64 (ch m n)))(a b:List Tk):FC Tryz.prog 225 [tks a,tks b,.fn f []] (tks (QjV ch a b)):=by
 refine Qg [6] Tryz.func225 rfl rfl 112 Tryz.ntmps225 (Nat.le_of_ble_eq_true rfl) ?_
 intro E hN;refine Jl ?_;refine zP (Qd (QcV a) rfl rfl rfl) ?_;refine QR ?_
 refine zc 15 ?_ ?_<;>intro h4
 ·refine J6 ?_;refine zQ ?_;exact Qfb (by simp_all [QjV])
 refine Yy ?_;refine uP (X3 (m1 (n0 h4))) (Qd (QcV b) rfl rfl rfl) ?_;refine QI ?_
 refine zq ?_ ?_<;>intro h5
 ·have h1:=h5
  refine QI ?_;refine zQ ?_;exact Qfb (by simp_all [QjV])
 have h1:(Q2 (-1) a&&Q2 (-1) b)=true:=by simp_all
 have ha64:=QvO (l:=a) (by simp_all)
 have hb64:=QvO (l:=b) (by simp_all)
 refine Xy ?_;refine QC (Qmc rfl 7 192 2 rfl) ?_;refine Qq (fun x:{q:List Tk×List Tk×List Tk // q.2.2++Wx ch q.1 q.2.1=Wx ch a b∧q.2.2.length+q.1.length+q.2.1.length≤a.length+b.length}=>⟨[(0,tks x.1.1),(1,tks x.1.2.1),(2,.fn f []),(7,.sl (x.1.2.2.map tkC) (some 0))],[(0,.tok 192 2 x.1.2.2.length)],1⟩) (fun x=>x.1.1.length+x.1.2.1.length) (⟨(a,b,[]),rfl,by simp⟩) ?_ ?_
 ·exact Qa rfl (Ks trivial) ⟨rfl,rfl,rfl,trivial⟩
 rintro⟨⟨u,v,acc⟩,hg,hlen⟩;dsimp only at hg hlen ⊢
 rcases u with _|⟨x,r⟩<;>rcases v with _|⟨y,s⟩
 ·skip
  refine QL ?_;refine zP (QD (b:=false) rfl rfl rfl (by simp<;>omega)) ?_;refine QI ?_;refine zP (QD (b:=false) rfl rfl rfl (by simp<;>omega)) ?_;refine Jl ?_;refine zQ ?_;exact Qfb (by rw[QjV,if_pos h1,←hg];simp[Wx,Qbl])
 ·skip
  refine QL ?_;refine zP (QD (b:=false) rfl rfl rfl (by simp<;>omega)) ?_;refine QI ?_;refine zP (QD (b:=true) rfl rfl rfl (by simp<;>omega)) ?_;refine QkJ ?_;refine zD 19 ?_;refine QR ?_;refine zp (QD (b:=false) rfl rfl rfl (by simp<;>omega)) ?_;refine QI ?_;refine zp (QD (b:=false) rfl rfl rfl (by simp<;>omega)) ?_;refine QbP ?_;refine zD 14 ?_;refine QR ?_;refine zp (QD (b:=true) rfl rfl rfl (by simp<;>omega)) ?_;refine WT ?_;refine zD 12 ?_;refine zm ?_;refine zp (Qh rfl rfl rfl 0 rfl _ rfl rfl) ?_;refine QI ?_
  refine zp (Qh rfl rfl rfl 0 rfl _ rfl rfl) ?_;refine QI ?_;refine zp (KF rfl rfl rfl 1 rfl (by simp) (by exact fun _=>rfl)) ?_;refine zp (JO rfl rfl) ?_;refine zp (JO rfl rfl) ?_;refine Xy ?_;refine zP (QaO (hc _ _) rfl rfl rfl rfl) ?_;refine Xy ?_
  refine zq ?_ ?_<;>intro h25
  ·have h13:=h25
   refine QL ?_;refine zP (Q0 rfl rfl rfl rfl (by exact rfl) (by decide) (by decide)) ?_;refine Xp hN rfl rfl rfl (by simp) rfl rfl (QN Qff _) rfl (by simp[Xm] at hlen ⊢ <;> omega) rfl rfl rfl rfl ?_;refine zS ?_;refine Qc ?_;exact⟨⟨([],s,acc++[(y.1,ch 0 y.2)]),QfD h13 (by rw[←hg,Qw5]),by simp at hlen ⊢ <;> omega⟩,Qa rfl (YG ⟨(cgL (by simp[tkC,Xm])),rfl,trivial⟩) ⟨(cgT (by simp[Xm])),rfl,rfl,trivial⟩,by simp<;>omega⟩
  have h13:=h25
  refine QM ?_;exact⟨⟨([],s,acc),QhN h13 (by rw[←hg,Qw5]),by simp at hlen ⊢ <;> omega⟩,Qa rfl (YG ⟨(cgL (by simp)),rfl,trivial⟩) ⟨(cgT (by simp)),rfl,rfl,trivial⟩,by simp<;>omega⟩
 ·skip
  refine QL ?_;refine zP (QD (b:=true) rfl rfl rfl (by simp<;>omega)) ?_;refine Qmp ?_;refine zD 19 ?_;refine QR ?_;refine zp (QD (b:=true) rfl rfl rfl (by simp<;>omega)) ?_;refine QeV ?_;refine zD 12 ?_;refine zm ?_;refine zp (Qh rfl rfl rfl 0 rfl _ rfl rfl) ?_;refine QI ?_;refine zp (Qh rfl rfl rfl 0 rfl _ rfl rfl) ?_;refine QI ?_;refine zp (KF rfl rfl rfl 1 rfl (by simp) (by exact fun _=>rfl)) ?_;refine zp (JO rfl rfl) ?_;refine zp (JO rfl rfl) ?_;refine Xy ?_;refine zP (QaO (hc _ _) rfl rfl rfl rfl) ?_;refine Xy ?_
  refine zq ?_ ?_<;>intro h39
  ·have h13:=h39
   refine QL ?_;refine zP (Q0 rfl rfl rfl rfl (by exact rfl) (by decide) (by decide)) ?_;refine Xp hN rfl rfl rfl (by simp) rfl rfl (QN Qff _) rfl (by simp[Xm] at hlen ⊢ <;> omega) rfl rfl rfl rfl ?_;refine zS ?_;refine Qc ?_;exact⟨⟨(r,[],acc++[(x.1,ch x.2 0)]),QfD h13 (by rw[←hg,Qwc]),by simp at hlen ⊢ <;> omega⟩,Qa rfl (YG ⟨(cgL (by simp[tkC,Xm])),rfl,trivial⟩) ⟨(cgT (by simp[Xm])),rfl,rfl,trivial⟩,by simp<;>omega⟩
  have h13:=h39
  refine QM ?_;exact⟨⟨(r,[],acc),QhN h13 (by rw[←hg,Qwc]),by simp at hlen ⊢ <;> omega⟩,Qa rfl (YG ⟨(cgL (by simp)),rfl,trivial⟩) ⟨(cgT (by simp)),rfl,rfl,trivial⟩,by simp<;>omega⟩
 skip
 refine QL ?_;refine zP (QD (b:=true) rfl rfl rfl (by simp<;>omega)) ?_;refine Qmp ?_;refine zD 19 ?_;refine QR ?_;refine zp (QD (b:=false) rfl rfl rfl (by simp<;>omega)) ?_;refine QI ?_;refine zp (QD (b:=true) rfl rfl rfl (by simp<;>omega)) ?_;refine QR ?_;refine zp (Qh rfl rfl rfl 0 rfl _ rfl rfl) ?_;refine QI ?_;refine zp (Qh rfl rfl rfl 0 rfl _ rfl rfl) ?_;refine Xy ?_
 refine zq ?_ ?_<;>intro h52
 ·have h8:=h52
  refine zD 12 ?_;refine zm ?_;refine zp (Qh rfl rfl rfl 0 rfl _ rfl rfl) ?_;refine QI ?_;refine zp (Qh rfl rfl rfl 0 rfl _ rfl rfl) ?_;refine QI ?_;refine zp (KF rfl rfl rfl 1 rfl (by simp) (by exact fun _=>rfl)) ?_;refine zp (JO rfl rfl) ?_;refine zp (JO rfl rfl) ?_;refine Xy ?_;refine zP (QaO (hc _ _) rfl rfl rfl rfl) ?_;refine Xy ?_
  refine zq ?_ ?_<;>intro h61
  ·have h13:=h61
   refine QL ?_;refine zP (Q0 rfl rfl rfl rfl (by exact rfl) (by decide) (by decide)) ?_;refine Xp hN rfl rfl rfl (by simp) rfl rfl (QN Qff _) rfl (by simp[Xm] at hlen ⊢ <;> omega) rfl rfl rfl rfl ?_;refine zS ?_;refine Qc ?_;exact⟨⟨(r,y::s,acc++[(x.1,ch x.2 0)]),QfD h13 (by rw[←hg,QtE (by simpa using h8)]),by simp at hlen ⊢ <;> omega⟩,Qa rfl (YG ⟨(cgL (by simp[tkC,Xm])),rfl,trivial⟩) ⟨(cgT (by simp[Xm])),rfl,rfl,trivial⟩,by simp<;>omega⟩
  have h13:=h61
  refine QM ?_;exact⟨⟨(r,y::s,acc),QhN h13 (by rw[←hg,QtE (by simpa using h8)]),by simp at hlen ⊢ <;> omega⟩,Qa rfl (YG ⟨(cgL (by simp)),rfl,trivial⟩) ⟨(cgT (by simp)),rfl,rfl,trivial⟩,by simp<;>omega⟩
 have h8:=h52
 refine Yy ?_;refine zD 14 ?_;refine QR ?_;refine zp (QD (b:=false) rfl rfl rfl (by simp<;>omega)) ?_;refine QR ?_;refine zp (Qh rfl rfl rfl 0 rfl _ rfl rfl) ?_;refine QI ?_;refine zp (Qh rfl rfl rfl 0 rfl _ rfl rfl) ?_;refine XL ?_
 refine zq ?_ ?_<;>intro h72
 ·have h10:=h72
  refine zD 12 ?_;refine zm ?_;refine zp (Qh rfl rfl rfl 0 rfl _ rfl rfl) ?_;refine QI ?_;refine zp (Qh rfl rfl rfl 0 rfl _ rfl rfl) ?_;refine QI ?_;refine zp (KF rfl rfl rfl 1 rfl (by simp) (by exact fun _=>rfl)) ?_;refine zp (JO rfl rfl) ?_;refine zp (JO rfl rfl) ?_;refine Xy ?_;refine zP (QaO (hc _ _) rfl rfl rfl rfl) ?_;refine Xy ?_
  refine zq ?_ ?_<;>intro h81
  ·have h13:=h81
   refine QL ?_;refine zP (Q0 rfl rfl rfl rfl (by exact rfl) (by decide) (by decide)) ?_;refine Xp hN rfl rfl rfl (by simp) rfl rfl (QN Qff _) rfl (by simp[Xm] at hlen ⊢ <;> omega) rfl rfl rfl rfl ?_;refine zS ?_;refine Qc ?_;exact⟨⟨(x::r,s,acc++[(y.1,ch 0 y.2)]),QfD h13 (by rw[←hg,QtJ (by simpa using h8) (by simpa using h10)]),by simp at hlen ⊢ <;> omega⟩,Qa rfl (YG ⟨(cgL (by simp[tkC,Xm])),rfl,trivial⟩) ⟨(cgT (by simp[Xm])),rfl,rfl,trivial⟩,by simp<;>omega⟩
  have h13:=h81
  refine QM ?_;exact⟨⟨(x::r,s,acc),QhN h13 (by rw[←hg,QtJ (by simpa using h8) (by simpa using h10)]),by simp at hlen ⊢ <;> omega⟩,Qa rfl (YG ⟨(cgL (by simp)),rfl,trivial⟩) ⟨(cgT (by simp)),rfl,rfl,trivial⟩,by simp<;>omega⟩
 have h10:=h72
 refine zD 20 ?_;refine zm ?_;refine zp (Qh rfl rfl rfl 0 rfl _ rfl rfl) ?_;refine QI ?_;refine zp (Qh rfl rfl rfl 0 rfl _ rfl rfl) ?_;refine QI ?_;refine zp (Qh rfl rfl rfl 0 rfl _ rfl rfl) ?_;refine QI ?_;refine zp (KF rfl rfl rfl 1 rfl (by simp) (by exact fun _=>rfl)) ?_;refine zm ?_;refine zp (KF rfl rfl rfl 1 rfl (by simp) (by exact fun _=>rfl)) ?_;refine zp (JO rfl rfl) ?_;refine zp (JO rfl rfl) ?_;refine zp (JO rfl rfl) ?_;refine zp (JO rfl rfl) ?_;refine Xy ?_;refine zP (QaO (hc _ _) rfl rfl rfl rfl) ?_;refine Xy ?_
 refine zq ?_ ?_<;>intro h97
 ·have h13:=h97
  refine QL ?_;refine zP (Q0 rfl rfl rfl rfl (by exact rfl) (by decide) (by decide)) ?_;refine Xp hN rfl rfl rfl (by simp) rfl rfl (QN Qff _) rfl (by simp[Xm] at hlen ⊢ <;> omega) rfl rfl rfl rfl ?_;refine zS ?_;refine Qc ?_;exact⟨⟨(r,s,acc++[(x.1,ch x.2 y.2)]),QfD h13 (by rw[←hg,Qs3 (by simpa using h8) (by simpa using h10)]),by simp at hlen ⊢ <;> omega⟩,Qa rfl (YG ⟨(cgL (by simp[tkC,Xm])),rfl,trivial⟩) ⟨(cgT (by simp[Xm])),rfl,rfl,trivial⟩,by simp<;>omega⟩
 have h13:=h97
 refine QM ?_;exact⟨⟨(r,s,acc),QhN h13 (by rw[←hg,Qs3 (by simpa using h8) (by simpa using h10)]),by simp at hlen ⊢ <;> omega⟩,Qa rfl (YG ⟨(cgL (by simp)),rfl,trivial⟩) ⟨(cgT (by simp)),rfl,rfl,trivial⟩,by simp<;>omega⟩
theorem Qn4 (m n:Int):FC Tryz.prog 226 [i64 m,i64 n] (i64 (Wi m n)):=by
 refine Qg [4] Tryz.func226 rfl rfl 9 Tryz.ntmps226 (Nat.le_of_ble_eq_true rfl) ?_
 intro E hN;refine X5 ?_
 refine zq ?_ ?_<;>intro h3
 ·refine QK ?_;refine zQ ?_;exact Q1 (by unfold Wi;split<;>simp_all<;>omega)
 refine QK ?_;refine zQ ?_;exact Q1 (by unfold Wi;split<;>simp_all<;>omega)
theorem QlK (a b:List Tk):FC Tryz.prog 206 [tks a,tks b] (tks (Qgy a b)):=by
 refine Qg [4] Tryz.func206 rfl rfl 8 Tryz.ntmps206 (Nat.le_of_ble_eq_true rfl) ?_
 intro E hN;refine Jl ?_;refine zP (Qd (QuT Qn4 a b) rfl rfl rfl) ?_;refine zS ?_;refine zQ ?_
 rfl
theorem Qhe (a b:List Tk):FC Tryz.prog 175 [tks a,tks b] (i64 (QfI a b)):=by
 refine Qg [4] Tryz.func175 rfl rfl 34 Tryz.ntmps175 (Nat.le_of_ble_eq_true rfl) ?_
 intro E hN;refine Jl ?_;refine zP (Qd (QcV a) rfl rfl rfl) ?_;refine QR ?_
 refine zc 10 ?_ ?_<;>intro h3
 ·refine J6 ?_;refine zQ ?_;exact Q1 (by simp_all [QfI])
 refine Yy ?_;refine uP (X3 (m1 (n0 h3))) (Qd (QcV b) rfl rfl rfl) ?_;refine QI ?_
 refine zq ?_ ?_<;>intro h4
 ·refine QI ?_;refine zQ ?_;exact Q1 (by simp_all [QfI])
 refine QL ?_;refine zP (Qd (QlK a b) rfl rfl rfl) ?_;refine QK ?_;refine zP (Qd (QlK b a) rfl rfl rfl) ?_;refine X5 ?_
 refine zc 27 ?_ ?_<;>intro h7
 ·refine QK ?_
  refine zq ?_ ?_<;>intro h10
  ·refine QI ?_;refine zQ ?_;exact Q1 (by simp_all [QfI])
  refine J6 ?_;refine zQ ?_;exact Q1 (by simp_all [QfI])
 refine QbP ?_
 refine zq ?_ ?_<;>intro h10
 ·refine QI ?_;refine zQ ?_;exact Q1 (by simp_all [QfI])
 refine QK ?_;refine zQ ?_;exact Q1 (by simp_all [QfI])
end Go.Proofs.YtnkkokmmeplbgaaGreat
