/-
  Contracts: closing names under rules: the system, its chain,
-/
import Derived.Test.YtnkkokmmeplbgaaGreatB19
import Derived.Test.YtnkkokmmeplbgaaGreatA4
namespace Go.Proofs.YtnkkokmmeplbgaaGreat
set_option maxRecDepth 100000
set_option maxHeartbeats 1000000
open Go.RowKit
structure QeL (u:List Nm) (rs:List Ru):Prop where
 s:QF u=true
 v:∀x∈u,XU x=true
 n:u.length≤1000
 m:rs.length≤1000
 r:∀r∈rs,QF r.i=true∧(∀x∈r.i,x∈u)∧r.t∈u
theorem QgA:∀(u l:List Nm),l.Nodup→(∀x∈l,x∈u)→l.length≤u.length
 |[],l,_,h=>by
  cases l with
  |nil=>simp
  |cons x l=>exact absurd (h x (List.mem_cons_self ..)) (by simp)
 |y::u,l,hn,h=>by
  by_cases hy:y∈l
  ·have h1:=QgA u (l.erase y) (hn.erase y) (fun x hx=>by
    have h2:=(List.Nodup.mem_erase_iff hn).1 hx
    rcases List.mem_cons.1 (h x h2.2) with e|e
    ·exact absurd e h2.1
    exact e)
   rw[List.length_erase_of_mem hy] at h1
   simp only[List.length_cons];omega
  have h1:=QgA u l hn (fun x hx=>by
   rcases List.mem_cons.1 (h x hx) with e|e
   ·subst e;exact absurd hx hy
   exact e)
  simp only[List.length_cons];omega
section
variable {u:List Nm}{rs:List Ru}{r:Ru}
theorem QeL.w (h:QeL u rs):pw u:=Ye h.s
theorem QeL.len (h:QeL u rs)(hr:r∈rs):r.i.length≤1000:=by
 obtain⟨h1,h2,-⟩:=h.r r hr
 have:=QgA u r.i ((Ye h1).imp (fun h=>Qek h)) h2
 have:=h.n
 omega
end
theorem QiI (l:List Bool):∀e∈l.map bv1,fzs e=some e:=fun e he=>by
 obtain⟨x,-,rfl⟩:=List.mem_map.1 he
 rfl
theorem Qla (b:Bool):okE 1 (bv1 b)=true:=rfl
theorem Qw7 (n:Nat):okE 1 (nv1 n)=true:=rfl
theorem QwL (h:List Nat×Nat):okE 2 (hrC h)=true:=rfl
theorem QlN (x:AV):QT 1 1 [x]=[[x]]:=rfl
theorem QdT (x y:AV):QT 2 1 [x,y]=[[x,y]]:=rfl
theorem QtC (u:List Nm):List.replicate u.length false=Kg u []:=by
 apply List.ext_getElem (by simp[Kg])
 intro i h1 h2
 simp[Kg,JL]
theorem QtB {u s:List Nm}{k:Nat}{x:Nm}(hs:pw u)(hx:s[k]?=some x)(hu:x∈u):(Kg u (s.take k)).set (Qci u x) true=Kg u (s.take (k+1)):=by
 rw[Qmz hs hu,List.take_add_one,hx];rfl
theorem cgS {tt:TypeId}{a:AV}{es es':List (List AV)}{tk:Option Nat}(h:es=es'):some (Qj.var tt [a,.sl es tk])=some (Qj.var tt [a,.sl es' tk]):=by rw[h]
theorem cgF {tt:TypeId}{b:AV}{es es':List (List AV)}{tk:Option Nat}(h:es=es'):some (Qj.var tt [.sl es tk,b])=some (Qj.var tt [.sl es' tk,b]):=by rw[h]
theorem cgP {tt:TypeId}{a b:Int}{p:Int×Int}(h:(a,b)=p):some (Qj.var tt [i64 a,i64 b])=some (Qj.var tt [i64 p.1,i64 p.2]):=by rw[←h]
theorem Qnc {α β:Type}(f:α→β){l:List α}{k:Nat}{x:α}(hx:l[k]?=some x):(l.map f)[k]?=some (f x):=by rw[List.getElem?_map,hx];rfl
theorem QlH {α β:Type}(f:α→β){l:List α}{k:Nat}{x:α}(hx:l[k]?=some x):(l.take k).map f++[f x]=(l.take (k+1)).map f:=by rw[List.take_add_one,hx];simp
theorem QwO {u:List Nm}{o:Option (Nat×Ru)}(h:((Qmr u o).1 == -1&&(Qmr u o).2==0)=true):o=none:=by
 cases o with
 |none=>rfl
 |some q=>
  obtain⟨k,r⟩:=q
  simp only[Qmr,Bool.and_eq_true,beq_iff_eq] at h
  omega
theorem Qug {u:List Nm}{o:Option (Nat×Ru)}(h:((Qmr u o).1 == -1&&(Qmr u o).2==0)=false):∃k r,o=some (k,r):=by
 cases o with
 |none=>cases h
 |some q=>exact⟨q.1,q.2,rfl⟩
theorem Qwx {q:Ru→Bool}{l:List Ru}{k:Nat}{x:Ru}{v:Option (Nat×Ru)}(hg:QaD q (l.drop k) k=v)(hx:l[k]?=some x)(h:q x=false):QaD q (l.drop (k+1)) (k+1)=v:=by
 rw[←hg,XI hx]
 conv=>rhs;unfold QaD
 rw[h];rfl
theorem Qpa {q:Ru→Bool}{l:List Ru}{k:Nat}{x:Ru}{v:Option (Nat×Ru)}(hg:QaD q (l.drop k) k=v)(hx:l[k]?=some x)(h:q x=true):v=some (k,x):=by
 rw[←hg,XI hx]
 unfold QaD
 rw[h];rfl
theorem Qpd {q:Ru→Bool}{l:List Ru}{k:Nat}{v:Option (Nat×Ru)}(hg:QaD q (l.drop k) k=v)(hge:l.length≤k):v=none:=by
 rw[←hg,List.drop_of_length_le hge];rfl
instance:Qo2 Tryz.prog 243:=⟨by kernel_rfl,by kernel_rfl,by kernel_rfl,by kernel_rfl⟩
theorem Qxl (u:List Nm)(hu:u.length≤1000)(hs:pw u)(R:AV)(s:List Nm)(h1:QF s=true)(h2:∀x∈s,x∈u):FC Tryz.prog 216 [.el [Jz u,R],Jz s] (.tup [.sl ((Kg u s).map bv1) none,i64 0]):=by
 refine Qg [4,5] Tryz.func216 rfl rfl 35 Tryz.ntmps216 (Nat.le_of_ble_eq_true rfl) ?_
 intro E hN;refine Jq 1 rfl (fun hl1=>?_);refine J6 ?_;refine zP (Qd (Qbv s) rfl rfl rfl) ?_;refine QR ?_
 refine zq ?_ ?_<;>intro h3
 ·have e:=n1 h3
  rw[h1] at e;cases e
 refine Jl ?_;refine QoP hN rfl rfl rfl rfl rfl (by simp;omega) rfl rfl rfl rfl ?_;rw[List.length_map,QtC];refine XR ?_;refine Qq (fun x:{k:Nat // k≤(s).length∧True}=>⟨[(0,.el [Jz u,R]),(6,.own 0 u.length),(19,Jz s),(20,i64 s.length),(21,i64 (x.1:Nat))],[(0,.arr 4 1 ((Kg u (s.take x.1)).map bv1))],1⟩) (fun x=>(s).length-x.1) (⟨0,Nat.zero_le _,by simp⟩) ?_ ?_
 ·exact Qa rfl (YG ⟨(Y5 (by simp)),rfl,(X2 trivial)⟩) ⟨rfl,rfl,(XM (fun _=>rfl) _),trivial⟩
 rintro⟨k,hk,hg⟩;dsimp only;refine QL ?_
 refine zq ?_ ?_<;>intro h14
 rotate_left
 ·have hge:s.length≤k:=by simpa using h14
  rw[List.take_of_length_le hge];refine Xy ?_;refine QC (JU 4 0 rfl rfl (by simp[Kg]) (QN Qla _) (QiI _) rfl) ?_;refine zR ?_
  rfl
 have hlt:k<(s).length:=by simpa using h14
 obtain⟨x,hx⟩:=Qw hlt;refine QL ?_;refine zP (Qh rfl rfl rfl k rfl _ (Qt hx) rfl) ?_;refine Xy ?_;refine zP (Qd (Qr5 u (by omega) hs R x (h2 x (List.mem_of_getElem? hx))) rfl rfl rfl) ?_;refine Jl ?_
 refine zq ?_ ?_<;>intro h18
 ·have e:=of_decide_eq_true h18
  omega
 refine QK ?_;refine zP (QU rfl rfl rfl rfl (by simp[Kg]) (Qci u x) rfl (Qc3 (h2 x (List.mem_of_getElem? hx)))) ?_;refine QhE hN rfl rfl (Kg u (s.take k)) rfl (by simp[Kg]) (Qci u x) rfl (by rw[Qeh];exact Qc3 (h2 x (List.mem_of_getElem? hx))) rfl rfl rfl rfl ?_;refine QK ?_;refine Qc ?_;exact⟨⟨k+1,hlt,trivial⟩,Qa rfl (Ks ⟨JC,rfl,trivial⟩) ⟨(cgA (by rw[QtB hs hx (h2 x (List.mem_of_getElem? hx))])),rfl,(XM (fun _=>rfl) _),trivial⟩,by dsimp only;omega⟩
theorem QuH (u:List Nm)(hu:u.length≤1000)(R:AV)(bits:List Bool)(hb:bits.length=u.length):FC Tryz.prog 217 [.el [Jz u,R],.sl (bits.map bv1) none] (Jz (Qc8 u bits)):=by
 refine Qg [4] Tryz.func217 rfl rfl 29 Tryz.ntmps217 (Nat.le_of_ble_eq_true rfl) ?_
 intro E hN;refine XL ?_;refine QcT hN rfl rfl rfl rfl rfl rfl ?_;refine XR ?_;refine Qq (fun x:{k:Nat // k≤(bits).length∧True}=>⟨[(0,.el [Jz u,R]),(5,.own 0 (Qc8 (u.take x.1) (bits.take x.1)).length),(9,.sl (bits.map bv1) none),(10,i64 bits.length),(11,i64 (x.1:Nat))],[(0,.arr 9 1 ((Qc8 (u.take x.1) (bits.take x.1)).map sv1))],1⟩) (fun x=>(bits).length-x.1) (⟨0,Nat.zero_le _,by simp⟩) ?_ ?_
 ·exact Qa rfl (YG ⟨(Y5 (by simp)),rfl,(X2 trivial)⟩) ⟨rfl,rfl,(XM (fun _=>rfl) _),trivial⟩
 rintro⟨k,hk,hg⟩;dsimp only;refine QL ?_
 refine zq ?_ ?_<;>intro h10
 rotate_left
 ·have hge:bits.length≤k:=by simpa using h10
  rw[Qvm (by omega) hb];refine XL ?_;refine QC (JU 4 0 rfl rfl (by simp) (QN Qbf _) (Qds _) rfl) ?_;refine zR ?_
  rfl
 have hlt:k<(bits).length:=by simpa using h10
 obtain⟨x,hx⟩:=Qw hlt;obtain⟨z,hz⟩:=Qw (show k<u.length by omega);refine XL ?_;refine zP (Qh rfl rfl rfl k rfl _ (Qt hx) rfl) ?_;refine Jl ?_
 refine zq ?_ ?_<;>intro h12
 rotate_left
 ·have hbz:x=false:=h12
  subst hbz
  have hst:=Qh9 hz hx
  refine QK ?_;refine Qc ?_;exact⟨⟨k+1,hlt,trivial⟩,Qa rfl (X2 ⟨(cgO (by rw[hst];first|(simp;done)|(simp[Xi];done))),rfl,(Yw ⟨JC,rfl,trivial⟩)⟩) ⟨(cgA (by rw[hst];first|(simp;done)|(simp[Xi,sv1];done))),rfl,(XM (fun _=>rfl) _),trivial⟩,by dsimp only;omega⟩
 have hbz:x=true:=h12
 subst hbz
 have hst:=Qh9 hz hx
 refine Xy ?_;refine zP (Qh rfl rfl rfl k rfl _ (Qt hz) rfl) ?_;refine zL ?_;refine zP (Q0 rfl rfl rfl rfl (by exact rfl) (by decide) (by decide)) ?_;refine XA hN rfl rfl rfl (by simp) rfl rfl rfl (by have:=Qpi (u.take k) (bits.take k);simp[Xi] at this ⊢;omega) rfl rfl rfl rfl ?_;refine QL ?_;refine Qc ?_
 exact⟨⟨k+1,hlt,trivial⟩,Qa rfl (X2 ⟨(cgO (by rw[hst];first|(simp;done)|(simp[Xi];done))),rfl,(Yw ⟨JC,rfl,trivial⟩)⟩) ⟨(cgA (by rw[hst];first|(simp;done)|(simp[Xi,sv1];done))),rfl,(XM (fun _=>rfl) _),trivial⟩,by dsimp only;omega⟩
theorem Qw0 (u:List Nm)(rs:List Ru)(h:QeL u rs):GC Tryz.prog 230 [.ptr Qf 0,rus rs] [(Qf,.var 227 [Jz u,.p (.slice none 0 0)])] (i64 0) [(Qf,.var 227 [Jz u,hrs (rs.map (Qar u))])]:=by
 refine Yn [4] Tryz.func230 rfl rfl 59 Tryz.ntmps230 (Nat.le_of_ble_eq_true rfl) ?_
 intro E hN;refine Jq 1 rfl (fun hl1=>?_);refine JF ?_;refine QC (Kx rfl Qf 1 239 2 rfl rfl rfl) ?_;refine Qq (fun x:{k:Nat // k≤(rs).length∧True}=>⟨[(0,.ptr Qf 0),(11,rus rs),(12,i64 rs.length),(13,i64 (x.1:Nat))],[(Qf,.var 227 [Jz u,.sl (((rs.map (Qar u)).take x.1).map hrC) (some 0)]),(0,.tok 239 2 ((rs.map (Qar u)).take x.1).length)],1⟩) (fun x=>(rs).length-x.1) (⟨0,Nat.zero_le _,by simp⟩) ?_ ?_
 ·exact Qa rfl (Yw ⟨(Y5 (by simp)),rfl,(X2 trivial)⟩) ⟨rfl,rfl,rfl,rfl,rfl,rfl,trivial⟩
 rintro⟨k,hk,hg⟩;dsimp only;refine QL ?_
 refine zq ?_ ?_<;>intro h8
 rotate_left
 ·have hge:rs.length≤k:=by simpa using h8
  rw[List.take_of_length_le (show(rs.map (Qar u)).length≤k by simpa using hge)];refine QR ?_;refine QC (QmK Qf 1 rfl rfl) ?_;refine QI ?_;refine Qu ?_;change (Xz _ _).fzt=some _∧_;refine Qd1 rfl ?_ rfl ?_ rfl
  all_goals rfl
 have hlt:k<(rs).length:=by simpa using h8
 obtain⟨x,hx⟩:=Qw hlt
 have hr:=h.r x (List.mem_of_getElem? hx)
 have hxx:=Qnc (Qar u) hx
 refine QL ?_;refine zP (Qh rfl rfl rfl k rfl _ (Qt hx) rfl) ?_;refine J6 ?_;refine zP (Qd (Qbv x.i) rfl rfl rfl) ?_;refine QR ?_
 refine zq ?_ ?_<;>intro h15
 ·have e:=n1 h15
  rw[hr.1] at e;cases e
 refine XL ?_;refine zP (Qim (Qr5 u (by have:=h.n;omega) h.w _ x.t hr.2.2) rfl rfl rfl (.cons (.ptr rfl rfl rfl) (.cons (.fz rfl) .nil))) ?_;refine Qbp ?_;refine QC (Kx rfl 2 0 3 1 rfl rfl rfl) ?_
 refine Qq (fun z:{k:Nat // k≤(x.i).length∧True}=>⟨[(0,.ptr Qf 0),(6,.ptr 1 0),(7,.ptr 2 0),(27,Jz x.i),(28,i64 x.i.length),(29,i64 (z.1:Nat)),(11,rus rs),(12,i64 rs.length),(13,i64 (k:Nat))],[(Qf,.var 227 [Jz u,.sl (((rs.map (Qar u)).take k).map hrC) (some 0)]),(0,.tok 239 2 ((rs.map (Qar u)).take k).length),(1,.var 188 (ruC x)),(2,.var 239 [.sl (((x.i.map (Qci u)).take z.1).map nv1) (some 3),i64 (Qci u x.t:Nat)]),(3,.tok 3 1 ((x.i.map (Qci u)).take z.1).length)],4⟩) (fun z=>x.i.length-z.1) (⟨0,Nat.zero_le _,by simp⟩) ?_ ?_
 ·exact Qa rfl (Ks ⟨(Y5 (by simp)),rfl,(Ks trivial)⟩) ⟨rfl,rfl,rfl,rfl,rfl,rfl,rfl,rfl,rfl,rfl,rfl,rfl,rfl,rfl,rfl,trivial⟩
 rintro⟨j,hj,-⟩;dsimp only;refine QL ?_
 refine zq ?_ ?_<;>intro h34
 ·have hjl:j<x.i.length:=by simpa using h34
  obtain⟨y,hy⟩:=Qw hjl
  have hxl:=h.len (List.mem_of_getElem? hx)
  have hyu:=hr.2.1 y (List.mem_of_getElem? hy)
  have hyy:=Qnc (Qci u) hy
  refine QL ?_;refine zP (Qh rfl rfl rfl j rfl _ (Qt hy) rfl) ?_;refine Xy ?_;refine zP (Qim (Qr5 u (by have:=h.n;omega) h.w _ y hyu) rfl rfl rfl (.cons (.ptr rfl rfl rfl) (.cons (.fz rfl) .nil))) ?_;refine Jl ?_
  refine zq ?_ ?_<;>intro h38
  ·have e:=of_decide_eq_true h38
   omega
  refine QL ?_;refine zP (Q0 rfl rfl rfl rfl (by exact rfl) (by decide) (by decide)) ?_;refine Xp hN rfl rfl rfl (by simp) rfl rfl (QN Qw7 _) rfl (by have:=h.len (List.mem_of_getElem? hx);simp[QlN];omega) rfl rfl rfl rfl ?_;refine XL ?_;refine Qc ?_;exact⟨⟨j+1,hjl,trivial⟩,Qa rfl (Ks (X2 ⟨JC,rfl,(YG trivial)⟩)) ⟨rfl,rfl,rfl,rfl,rfl,rfl,rfl,rfl,rfl,(cgF (by rw[←QlH nv1 hyy];exact congrArg (· ++ [_]) rfl)),rfl,rfl,(cgT (by rw[List.take_add_one,hyy];simp[QlN])),rfl,rfl,trivial⟩,by dsimp only;omega⟩
 have hje:x.i.length≤j:=by simpa using h34
 rw[List.take_of_length_le (show(x.i.map (Qci u)).length≤j by simpa using hje)];refine Jl ?_
 refine zq ?_ ?_<;>intro h48
 ·have e:=of_decide_eq_true h48
  omega
 refine zW ?_;refine QeA [0,1,2,3,4,5,6] 7 [8,9,10] rfl (by kernel_rfl) (by kernel_rfl) ?_;refine XL ?_;refine zp (Q0 rfl rfl rfl rfl (by exact rfl) (by decide) (by decide)) ?_;change FK _ _ _ _ _ _;refine Qk5 hN rfl rfl rfl (by simp) rfl rfl (QN QwL _) rfl (by have:=h.m;simp[QdT];omega) rfl rfl rfl rfl ?_;change Q3 _ _ _ _ _ _;refine Xy ?_;refine Qc ?_
 exact⟨⟨k+1,hlt,trivial⟩,Qa rfl (YG ⟨JC,rfl,trivial⟩) ⟨(cgS (by rw[←QlH hrC hxx];exact congrArg (· ++ [_]) rfl)),rfl,rfl,(cgT (by rw[List.take_add_one,hxx];simp[QdT])),rfl,rfl,trivial⟩,by dsimp only;omega⟩
theorem Qti (u:List Nm)(rs:List Ru)(h:QeL u rs):FC Tryz.prog 215 [Jz u,rus rs] (.tup [.el [Jz u,hrs (rs.map (Qar u))],i64 0]):=by
 refine Qg [4,5] Tryz.func215 rfl rfl 33 Tryz.ntmps215 (Nat.le_of_ble_eq_true rfl) ?_
 intro E hN;refine Jq 0 rfl (fun hl0=>?_);refine Qbp ?_;refine Qq (fun x:{k:Nat // k≤(u).length∧True}=>⟨[(0,Jz u),(1,rus rs),(10,Jz u),(11,i64 u.length),(12,i64 (x.1:Nat))],[],0⟩) (fun x=>(u).length-x.1) (⟨0,Nat.zero_le _,by simp⟩) ?_ ?_
 ·exact Qa rfl (YG ⟨(Y5 (by simp)),rfl,(X2 trivial)⟩) trivial
 rintro⟨k,hk,hg⟩;dsimp only;refine QL ?_
 refine zq ?_ ?_<;>intro h9
 ·have hlt:k<(u).length:=by simpa using h9
  obtain⟨x,hx⟩:=Qw hlt;refine QL ?_;refine zP (Qh rfl rfl rfl k rfl _ (Qt hx) rfl) ?_;refine XL ?_;refine zP (Qd (QfR x) rfl rfl rfl) ?_;refine QR ?_
  refine zq ?_ ?_<;>intro h12
  ·have e:=n1 h12
   rw[h.v x (List.mem_of_getElem? hx)] at e;cases e
  refine QK ?_;refine Qc ?_;exact⟨⟨k+1,hlt,trivial⟩,Qa rfl (Ks ⟨JC,rfl,trivial⟩) trivial,by dsimp only;omega⟩
 refine QL ?_;refine zP (Qd (Qbv u) rfl rfl rfl) ?_;refine QR ?_
 refine zq ?_ ?_<;>intro h14
 ·have e:=n1 h14
  rw[h.s] at e;cases e
 refine Qbp ?_;refine QhG hN 0 (Qw0 u rs h) (.fn _ _ _ _ rfl rfl) rfl rfl rfl rfl rfl rfl rfl rfl rfl rfl rfl ?_;refine Xy ?_
 refine zq ?_ ?_<;>intro h18
 ·cases h18
 refine QR ?_;refine QC (QaU 8 0 rfl rfl rfl rfl) ?_;refine QK ?_;refine zQ ?_
 rfl
theorem QqV (u:List Nm)(rs:List Ru)(h:QeL u rs)(s:List Nm):FC Tryz.prog 232 [.el [Jz u,hrs (rs.map (Qar u))],.sl ((Kg u s).map bv1) none,.fn 233 []] (.tup [.sl ((Kg u (YH rs rs.length s)).map bv1) none,.bot]):=by
 refine Qg [6,7] Tryz.func232 rfl rfl 56 Tryz.ntmps232 (Nat.le_of_ble_eq_true rfl) ?_
 intro E hN
 have hn:=h.n
 have hm:=h.m
 refine J6 ?_;refine QoP hN rfl rfl rfl rfl rfl (by simp[Kg];omega) rfl rfl rfl rfl ?_;refine XL ?_;refine Qt2 hN rfl rfl _ rfl (by simp) _ rfl (by simp) rfl rfl rfl rfl ?_;refine XL ?_;refine QC (QbN rfl 9 243 2 rfl) ?_
 refine Qq (fun z:{q:List Nm×List Tk // YH rs rs.length q.1=YH rs rs.length s∧q.2.length+QiR rs q.1≤rs.length}=>⟨[(0,.el [Jz u,hrs (rs.map (Qar u))]),(2,.fn 233 []),(8,.own 0 u.length),(9,.own 1 z.1.2.length)],[(0,.arr 4 1 ((Kg u z.1.1).map bv1)),(1,.arr 243 2 (z.1.2.map tkC))],2⟩) (fun z=>QiR rs z.1.1) (⟨(s,[]),rfl,by simpa using QkZ⟩) ?_ ?_
 ·exact Qa rfl (Yw ⟨(cgO (by simp[Kg])),rfl,(X2 trivial)⟩) ⟨rfl,rfl,(XM (fun _=>rfl) _),rfl,rfl,(XM (fun _=>rfl) _),trivial⟩
 rintro⟨⟨t,sts⟩,hg,hlen⟩;dsimp only at hg hlen ⊢;refine Xy ?_;refine JI (⟨[(0,.el [Jz u,hrs (rs.map (Qar u))]),(2,.fn 233 []),(8,.own 0 u.length),(9,.own 1 sts.length),(10,.ptr 2 0)],[(0,.arr 4 1 ((Kg u t).map bv1)),(1,.arr 243 2 (sts.map tkC)),(2,.var 243 [i64 (Qmr u (QaD (Yt t) rs 0)).1,i64 (Qmr u (QaD (Yt t) rs 0)).2])],3⟩) ?_ ?_
 ·refine XR ?_;refine Qq (fun x:{k:Nat // k≤(rs).length∧QaD (Yt t) (rs.drop k) k=QaD (Yt t) rs 0}=>⟨[(0,.el [Jz u,hrs (rs.map (Qar u))]),(2,.fn 233 []),(8,.own 0 u.length),(9,.own 1 sts.length),(10,.ptr 2 0),(23,hrs (rs.map (Qar u))),(24,i64 rs.length),(25,i64 (x.1:Nat))],[(0,.arr 4 1 ((Kg u t).map bv1)),(1,.arr 243 2 (sts.map tkC)),(2,.var 243 [i64 (-1),i64 0])],3⟩) (fun x=>(rs).length-x.1) (⟨0,Nat.zero_le _,by simp⟩) ?_ ?_
  ·exact Qa rfl (Ks (Yw ⟨(Y5 (by simp)),rfl,(X2 trivial)⟩)) ⟨rfl,rfl,(XM (fun _=>rfl) _),rfl,rfl,(XM (fun _=>rfl) _),rfl,rfl,rfl,trivial⟩
  rintro⟨k,hk,hg2⟩;dsimp only;refine QL ?_
  refine zq ?_ ?_<;>intro h25
  rotate_left
  ·have hge:(rs).length≤k:=by simpa using h25
   refine Qah ?_;exact Qa rfl (Ks (X2 trivial)) ⟨rfl,rfl,(XM (fun _=>rfl) _),rfl,rfl,(XM (fun _=>rfl) _),(by first|exact cgP (by rw[Qpd hg2 hge];rfl)|exact cgP (by rw[Qpa hg2 hx hf];rfl)),rfl,rfl,trivial⟩
  have hlt:k<(rs).length:=by simpa using h25
  obtain⟨x,hx⟩:=Qw hlt
  have hxr:=h.r x (List.mem_of_getElem? hx)
  have hfe:=QsE (t:=t) hxr.2.1 hxr.2.2
  refine XL ?_;refine zP (Qh rfl rfl rfl k rfl _ (Qt (Qnc (Qar u) hx)) rfl) ?_;refine J6 ?_;refine zP (QaO (QrK _) rfl rfl rfl rfl) ?_;refine QI ?_;refine zP (Qim (Qrz (Qar u x) (Kg u t) (by rw[Qeh];exact Qc3 hxr.2.2) (fun i hi=>by obtain⟨y,hy,rfl⟩:=List.mem_map.1 hi;rw[Qeh];exact Qc3 (hxr.2.1 y hy))) rfl rfl rfl (.cons (.fz rfl) (.cons (.own rfl (by simp[Kg]) (QN Qla _) (QiI _)) .nil))) ?_;refine QR ?_
  refine zq ?_ ?_<;>intro h31
  ·have hf:Yt t x=true:=by rw[←hfe];exact h31
   refine Jl ?_;refine Qah ?_;exact Qa rfl (Ks (X2 trivial)) ⟨rfl,rfl,(XM (fun _=>rfl) _),rfl,rfl,(XM (fun _=>rfl) _),(by first|exact cgP (by rw[Qpd hg2 hge];rfl)|exact cgP (by rw[Qpa hg2 hx hf];rfl)),rfl,rfl,trivial⟩
  have hf:Yt t x=false:=by rw[←hfe];exact h31
  refine QK ?_;refine Qc ?_;exact⟨⟨k+1,hlt,Qwx hg2 hx hf⟩,Qa rfl (Ks (YG ⟨JC,rfl,trivial⟩)) ⟨rfl,rfl,(XM (fun _=>rfl) _),rfl,rfl,(XM (fun _=>rfl) _),rfl,rfl,rfl,trivial⟩,by dsimp only;omega⟩
 refine QL ?_;refine zP (QxH rfl rfl rfl rfl) ?_;refine zN ?_
 refine zq ?_ ?_<;>intro h44
 ·have hno:=QwO h44
  refine Xy ?_;refine QC (JU 6 0 rfl rfl (by simp[Kg]) (QN Qla _) (QiI _) rfl) ?_;refine QC (st':=⟨[(6,.sl ((Kg u t).map bv1) none)],[],2⟩) (Qa rfl (X2 trivial) trivial) ?_;refine zR ?_;rw[←hg,QaK (QcZ hno)]
 obtain⟨kk,r,hr⟩:=Qug h44;obtain⟨hrf,hrm⟩:=QbH _ rs 0 hr
 have hrt:=(h.r r hrm).2.2
 rw[hr];refine XL ?_;refine zP (QU rfl rfl rfl rfl (by simp[Kg]) (Qci u r.t) rfl (Qc3 hrt)) ?_;refine QhE hN rfl rfl (Kg u t) rfl (by simp[Kg]) (Qci u r.t) rfl (by rw[Qeh];exact Qc3 hrt) rfl rfl rfl rfl ?_;refine QK ?_;refine zP (Q0 rfl rfl rfl rfl (by exact rfl) (by decide) (by decide)) ?_;refine XA hN rfl rfl rfl (by simp) rfl rfl rfl (by simp[QdT];omega) rfl rfl rfl rfl ?_;refine zS ?_;refine Qc ?_
 exact⟨⟨(t++[r.t],sts++[Qmr u (some (kk,r))]),(QuM hr).trans hg,by have:=Qc9 hrm hrf;simp;omega⟩,Qa rfl (YG ⟨(cgO (by simp[QdT])),rfl,trivial⟩) ⟨(cgA (by rw[Qmz h.w hrt])),rfl,(XM (fun _=>rfl) _),(cgA (by simp[QdT,tkC])),rfl,(XM (fun _=>rfl) _),trivial⟩,by exact Qc9 hrm hrf⟩
theorem Qre (u:List Nm)(rs:List Ru)(h:QeL u rs)(s:List Nm):FC Tryz.prog 218 [.el [Jz u,hrs (rs.map (Qar u))],.sl ((Kg u s).map bv1) none] (.sl ((Kg u (YH rs rs.length s)).map bv1) none):=by
 refine Qg [4] Tryz.func218 rfl rfl 14 Tryz.ntmps218 (Nat.le_of_ble_eq_true rfl) ?_
 intro E hN;refine Jl ?_;refine zP (Qd (QqV u rs h s) rfl rfl rfl) ?_;refine XR ?_;refine zQ ?_
 rfl
theorem Qlt (u:List Nm)(rs:List Ru)(h:QeL u rs)(s:List Nm)(h1:QF s=true)(h2:∀x∈s,x∈u):FC Tryz.prog 195 [Jz u,rus rs,Jz s] (.tup [Jz (Qae u rs s),i64 0]):=by
 refine Qg [6,7] Tryz.func195 rfl rfl 34 Tryz.ntmps195 (Nat.le_of_ble_eq_true rfl) ?_
 intro E hN;refine J6 ?_;refine zP (Qd (Qti u rs h) rfl rfl rfl) ?_;refine JF ?_
 refine zq ?_ ?_<;>intro h7
 ·cases h7
 refine QL ?_;refine zP (Qd (Qxl u h.n h.w _ s h1 h2) rfl rfl rfl) ?_;refine JF ?_
 refine zq ?_ ?_<;>intro h11
 ·cases h11
 refine XL ?_;refine zP (Qd (Qre u rs h s) rfl rfl rfl) ?_;refine zP (Qd (QuH u h.n _ (Kg u (YH rs rs.length s)) Qeh) rfl rfl rfl) ?_;refine QR ?_;refine zQ ?_
 rw[Qs4];rfl
end Go.Proofs.YtnkkokmmeplbgaaGreat
