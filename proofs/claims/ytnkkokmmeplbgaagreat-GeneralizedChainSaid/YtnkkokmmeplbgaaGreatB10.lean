/-
  Contracts: names.Of at sorted names, Union, Intersect.
-/
import Derived.Test.YtnkkokmmeplbgaaGreatB8
import Derived.Test.YtnkkokmmeplbgaaGreatA4
import Derived.Test.YtnkkokmmeplbgaaGreatB1
import Derived.Test.YtnkkokmmeplbgaaGreatB4
namespace Go.Proofs.YtnkkokmmeplbgaaGreat
set_option maxRecDepth 100000
set_option maxHeartbeats 1000000
open Go.RowKit
def Qpt (q:En)(x:En):Bool:=QfI q.1 x.1==1
def Qbj (b:List En)(x:En):Bool := !J9 b x
def QcP (a:List En)(q:En):Bool := !a.any (Qpt q)
def Qe5 (x y:En):Bool:=decide (JV x y≤0)
def Yc (a b:List En):List En:=(a.filter (Qbj b)++b.filter (QcP a)).mergeSort Qe5
theorem Qnd {l l2:List En}(hp:l2.Perm l)(hs:l2.Pairwise (fun x y=>0≤JV y x)):l2=l.mergeSort Qe5:=by
 have hle:∀x y,Qe5 x y=true↔0≤JV y x:=fun x y=>by simp[Qe5,YL.anti x y]
 have h1:l2.Pairwise (fun x y=>Qe5 x y=true):=hs.imp (fun h=>(hle _ _).2 h)
 have h2:(l.mergeSort Qe5).Pairwise (fun x y=>Qe5 x y=true):=List.pairwise_mergeSort (fun x y z h1 h2=>by
   simp only[Qe5,decide_eq_true_eq] at *
   exact YL.trans _ _ _ h1 h2) (fun x y=>by
   have:=YL.anti x y
   simp only[Qe5,Bool.or_eq_true,decide_eq_true_eq]
   omega) l
 refine List.Perm.eq_of_pairwise (le:=fun x y=>Qe5 x y=true) (fun x y _ _ h3 h4=>?_) h1 h2 (hp.trans (List.mergeSort_perm l Qe5).symm)
 simp only[Qe5,decide_eq_true_eq] at h3 h4
 have:=YL.anti y x
 exact YL.eq _ _ (by omega)
theorem Qoc (e:En):okE 2 (enC e)=true:=rfl
theorem Qrt (e:En):fzs (enC e)=some (enC e):=rfl
theorem XM {α:Type}{f:α→List AV}{L:Nat}{te:TypeId}{k:Nat}(h:∀x,(f x).all (okId L)=true)(l:List α):JB L (.arr te k (l.map f))=true:=by
 show((l.map f).flatten).all (okId L)=true
 induction l with
 |nil=>rfl
 |cons x l ih=>rw[List.map_cons,List.flatten_cons,List.all_append,h,ih];rfl
theorem Qjd (L:Nat)(e:En):(enC e).all (okId L)=true:=rfl
theorem QrZ (e:En):QT 2 1 (enC e)=[enC e]:=rfl
theorem cgO {q n n':Nat}(h:n=n'):some (AV.own q n)=some (AV.own q n'):=by rw[h]
theorem cgA {te:TypeId}{k:Nat}{es es':List (List AV)}(h:es=es'):some (Qj.arr te k es)=some (Qj.arr te k es'):=by rw[h]
theorem QdZ {q:En→Bool}{l:List En}{k:Nat}{x:En}(hx:l[k]?=some x)(h:q x=true):(l.take (k+1)).filter q=(l.take k).filter q++[x]:=by
 rw[List.take_add_one,hx,List.filter_append];simp[h]
theorem QgH {q:En→Bool}{l:List En}{k:Nat}{x:En}(hx:l[k]?=some x)(h:q x=false):(l.take (k+1)).filter q=(l.take k).filter q:=by
 rw[List.take_add_one,hx,List.filter_append];simp[h]
theorem Qgf {q:En→Bool}{l:List En}{k:Nat}:((l.take k).filter q).length≤l.length:=Nat.le_trans (List.length_filter_le _ _) (by simp;omega)
theorem QqA (x y:En):JH (.mk 0 [] [] [x]) (.mk 0 [] [] [y])=JV x y:=by
 rw[Wj]
 simp only[Qz.N,Qz.nm,Qz.ps,Qz.es,XD,Lib.compareInt]
 by_cases h:JV x y=0<;>simp[orE,h]
theorem Qob (q x:En):FC Tryz.prog 219 [.agg (enC x),.el (enC q)] (bl (Qpt q x)):=by
 refine Qg [3] Tryz.func219 rfl rfl 10 Tryz.ntmps219 (Nat.le_of_ble_eq_true rfl) ?_
 intro E hN;refine X5 ?_;refine zP (Qd (Qhe _ _) rfl rfl rfl) ?_;refine QR ?_;refine zQ ?_
 rfl
theorem QnR (x y:En):FC Tryz.prog 221 [.agg (enC x),.agg (enC y)] (i64 (JV x y)):=by
 refine Qg [4] Tryz.func221 rfl rfl 12 Tryz.ntmps221 (Nat.le_of_ble_eq_true rfl) ?_
 intro E hN;refine J6 ?_;refine zP (Q0 rfl rfl rfl rfl (by exact rfl) (by decide) (by decide)) ?_;refine QR ?_;refine zP (Q0 rfl rfl rfl rfl (by exact rfl) (by decide) (by decide)) ?_;refine Yy ?_;refine zP (Qd (Qgt (.mk 0 [] [] [x]) (.mk 0 [] [] [y])) rfl rfl rfl) ?_;refine zS ?_;refine zQ ?_;exact Q1 (QqA x y)
theorem Qp5 (a b:List En)(hab:a.length+b.length≤1000000):FC Tryz.prog 196 [ens a,ens b] (ens (Yc a b)):=by
 refine Qg [4] Tryz.func196 rfl rfl 43 Tryz.ntmps196 (Nat.le_of_ble_eq_true rfl) ?_
 intro E hN;refine QbP ?_;refine QC (QbN rfl 5 149 2 rfl) ?_;refine Qq (fun x:{k:Nat // k≤(a).length∧True}=>⟨[(0,ens a),(1,ens b),(10,ens a),(11,i64 a.length),(12,i64 (x.1:Nat)),(5,.own 0 ((a.take x.1).filter (Qbj b)).length)],[(0,.arr 149 2 (((a.take x.1).filter (Qbj b)).map enC))],1⟩) (fun x=>(a).length-x.1) (⟨0,Nat.zero_le _,by simp⟩) ?_ ?_
 ·exact Qa rfl (YG ⟨(Y5 (by simp)),rfl,(Yw trivial)⟩) ⟨rfl,rfl,(XM (Qjd _) _),trivial⟩
 rintro⟨k,hk,hg⟩;dsimp only;refine Jq 10 rfl (fun hl8=>?_);refine QL ?_
 refine zq ?_ ?_<;>intro h10
 ·have hlt:k<(a).length:=by simpa using h10
  obtain⟨x,hx⟩:=Qw hlt;refine QL ?_;refine zP (Qh rfl rfl rfl k rfl _ (Qt hx) rfl) ?_;refine Jl ?_;refine zP (Qd (Qh2 _ _) rfl rfl rfl) ?_;refine QR ?_
  refine zq ?_ ?_<;>intro h16
  ·have hkb:Qbj b x=true:=h16
   refine QI ?_;refine zP (Q0 rfl rfl rfl rfl (by exact rfl) (by decide) (by decide)) ?_;refine XA hN rfl rfl rfl (by simp) rfl rfl rfl (by simp only[List.length_map,Xm,List.length_singleton];have:=Qgf (q:=Qbj b) (l:=a) (k:=k);have:=Qgf (q:=QcP a) (l:=b) (k:=k);omega) rfl rfl rfl rfl ?_;refine QL ?_;refine Qc ?_
   exact⟨⟨k+1,hlt,trivial⟩,Qa rfl (Ks ⟨JC,rfl,(cgO (by first|(rw[QdZ hx hkb];simp[Xm]<;>omega)|rw[QgH hx hkb])),rfl,trivial⟩) ⟨(cgA (by first|(rw[QdZ hx hkb];simp[Xm,enC]<;>omega)|rw[QgH hx hkb])),rfl,(XM (Qjd _) _),trivial⟩,by dsimp only;omega⟩
  have hkb:Qbj b x=false:=h16
  refine QK ?_;refine Qc ?_;exact⟨⟨k+1,hlt,trivial⟩,Qa rfl (Ks ⟨JC,rfl,(cgO (by first|(rw[QdZ hx hkb];simp[Xm,enC]<;>omega)|rw[QgH hx hkb])),rfl,trivial⟩) ⟨(cgA (by first|(rw[QdZ hx hkb];simp[Xm,enC]<;>omega)|rw[QgH hx hkb])),rfl,(XM (Qjd _) _),trivial⟩,by dsimp only;omega⟩
 have hge:(a).length≤k:=by simpa using h10
 refine J6 ?_;refine Qq (fun x:{k:Nat // k≤(b).length∧True}=>⟨[(0,ens a),(25,ens b),(26,i64 b.length),(27,i64 (x.1:Nat)),(5,.own 0 (a.filter (Qbj b)++(b.take x.1).filter (QcP a)).length)],[(0,.arr 149 2 ((a.filter (Qbj b)++(b.take x.1).filter (QcP a)).map enC))],1⟩) (fun x=>(b).length-x.1) (⟨0,Nat.zero_le _,by simp⟩) ?_ ?_
 ·exact Qa rfl (Yw ⟨(Y5 (by simp)),rfl,rfl,rfl,(cgO (by rw[List.take_of_length_le hge];simp)),rfl,trivial⟩) ⟨(cgA (by rw[List.take_of_length_le hge];simp)),rfl,(XM (Qjd _) _),trivial⟩
 rintro⟨k,hk,hg⟩
 clear hge
 dsimp only;refine Jq 25 rfl (fun hl8=>?_);refine QL ?_
 refine zq ?_ ?_<;>intro h28
 rotate_left
 ·have hge:(b).length≤k:=by simpa using h28
  refine QR ?_
  have hacc:(a.filter (Qbj b)++(b.take k).filter (QcP a))=a.filter (Qbj b)++b.filter (QcP a):=by rw[List.take_of_length_le hge]
  refine QR ?_;refine Qwz (sf:=220) hN Qn6 rfl (by decide) enC (a.filter (Qbj b)++(b.take k).filter (QcP a)) JV (fun g=>YL.swo g) Qoc Qrt Tryz.isAgg149 Tryz.sizeOf149 (fun x _ y _=>QnR x y) rfl rfl rfl rfl (by have:=Qgf (q:=Qbj b) (l:=a) (k:=a.length);have:=Qgf (q:=QcP a) (l:=b) (k:=k);rw[List.take_length] at *;simp only[List.length_append];omega) rfl rfl rfl rfl (fun l2 hp hs2=>?_);refine QR ?_
  refine QC (JU 5 0 rfl rfl (by simp[hp.length_eq]) (QN Qoc _) (fun e he=>by obtain⟨y,-,rfl⟩:=List.mem_map.1 he;exact Qrt y) rfl) ?_;refine QI ?_;refine zQ ?_;exact Qfb (by rw[Qnd hp hs2,hacc];rfl)
 have hlt:k<(b).length:=by simpa using h28
 obtain⟨x,hx⟩:=Qw hlt;refine QL ?_;refine zP (Qh rfl rfl rfl k rfl _ (Qt hx) rfl) ?_;refine QL ?_;refine QC (QaU 9 1 rfl rfl rfl rfl) ?_;refine QR ?_;refine zP (QnB rfl rfl) ?_;refine zP (Qd (QlZ a (fun y _=>Qob x y)) rfl rfl rfl) ?_;refine QR ?_
 refine zq ?_ ?_<;>intro h34
 ·have hka:QcP a x=true:=h34
  refine QI ?_;refine zP (Q0 rfl rfl rfl rfl (by exact rfl) (by decide) (by decide)) ?_;refine XA hN rfl rfl rfl (by simp) rfl rfl rfl (by simp only[List.length_map,List.length_append,Xm,List.length_singleton];have:=Qgf (q:=Qbj b) (l:=a) (k:=a.length);have:=Qgf (q:=QcP a) (l:=b) (k:=k);rw[List.take_length] at *;omega) rfl rfl rfl rfl ?_;refine QL ?_;refine Qc ?_
  exact⟨⟨k+1,hlt,trivial⟩,Qa rfl (YG ⟨JC,rfl,(cgO (by first|(rw[QdZ hx hka];simp[Xm]<;>omega)|rw[QgH hx hka])),rfl,trivial⟩) ⟨(cgA (by first|(rw[QdZ hx hka];simp[Xm,enC]<;>omega)|rw[QgH hx hka])),rfl,(XM (Qjd _) _),trivial⟩,by dsimp only;omega⟩
 have hka:QcP a x=false:=h34
 refine QK ?_;refine Qc ?_;exact⟨⟨k+1,hlt,trivial⟩,Qa rfl (YG ⟨JC,rfl,(cgO (by first|(rw[QdZ hx hka];simp[Xm,enC]<;>omega)|rw[QgH hx hka])),rfl,trivial⟩) ⟨(cgA (by first|(rw[QdZ hx hka];simp[Xm,enC]<;>omega)|rw[QgH hx hka])),rfl,(XM (Qjd _) _),trivial⟩,by dsimp only;omega⟩
def QbC (b:Bool)(x:Nm)(l:List Nm):List Nm:=if b then x::l else l
def QdG (lf bo ri:Bool):Nat→List Nm→List Nm→List Nm
 |0,_,_=>[]
 |_+1,[],[]=>[]
 |f+1,x::r,[]=>QbC lf x (QdG lf bo ri f r [])
 |f+1,[],y::s=>QbC ri y (QdG lf bo ri f [] s)
 |f+1,x::r,y::s=>if Op.bytesLess x y then QbC lf x (QdG lf bo ri f r (y::s)) else if Op.bytesLess y x then QbC ri y (QdG lf bo ri f (x::r) s) else QbC bo x (QdG lf bo ri f r s)
section
variable (lf bo ri:Bool)
theorem Y9:∀(f g:Nat) (a b:List Nm),a.length+b.length≤f→a.length+b.length≤g→QdG lf bo ri f a b=QdG lf bo ri g a b
 |0,0,_,_,_,_=>rfl
 |0,g+1,a,b,h1,_=>by
  have ha:a=[]:=List.eq_nil_of_length_eq_zero (by omega)
  have hb:b=[]:=List.eq_nil_of_length_eq_zero (by omega)
  subst ha hb;rfl
 |f+1,0,a,b,_,h2=>by
  have ha:a=[]:=List.eq_nil_of_length_eq_zero (by omega)
  have hb:b=[]:=List.eq_nil_of_length_eq_zero (by omega)
  subst ha hb;rfl
 |f+1,g+1,[],[],_,_=>rfl
 |f+1,g+1,x::r,[],h1,h2=>by simp only[List.length_cons,List.length_nil] at h1 h2;simp only[QdG];rw[Y9 f g r [] (by simp;omega) (by simp;omega)]
 |f+1,g+1,[],y::s,h1,h2=>by simp only[List.length_cons,List.length_nil] at h1 h2;simp only[QdG];rw[Y9 f g [] s (by simp;omega) (by simp;omega)]
 |f+1,g+1,x::r,y::s,h1,h2=>by
  simp only[List.length_cons] at h1 h2
  simp only[QdG]
  rw[Y9 f g r (y::s) (by simp;omega) (by simp;omega),Y9 f g (x::r) s (by simp;omega) (by simp;omega),Y9 f g r s (by omega) (by omega)]
def Qaq (a b:List Nm):List Nm:=QdG lf bo ri (a.length+b.length) a b
end
section
variable {lf bo ri:Bool}{x y:Nm}{r s:List Nm}
theorem Qwv:Qaq lf bo ri (x::r) []=QbC lf x (Qaq lf bo ri r []):=by
 show QdG lf bo ri (r.length+1+0) (x::r) []=_
 rfl
theorem Qwk:Qaq lf bo ri [] (y::s)=QbC ri y (Qaq lf bo ri [] s):=by
 unfold Qaq
 rw[Y9 lf bo ri _ (s.length+1) [] (y::s) (by simp) (by simp),Y9 lf bo ri _ s.length [] s (by simp) (by simp)]
 rfl
theorem Qs0 (h:Op.bytesLess x y=true):Qaq lf bo ri (x::r) (y::s)=QbC lf x (Qaq lf bo ri r (y::s)):=by
 unfold Qaq
 rw[Y9 lf bo ri _ (r.length+(s.length+1)+1) (x::r) (y::s) (Nat.le_refl _) (by simp only[List.length_cons];omega),QdG,if_pos h]
 rfl
theorem Qtc (h:Op.bytesLess x y=false)(h2:Op.bytesLess y x=true):Qaq lf bo ri (x::r) (y::s)=QbC ri y (Qaq lf bo ri (x::r) s):=by
 unfold Qaq
 rw[Y9 lf bo ri _ (r.length+1+s.length+1) (x::r) (y::s) (Nat.le_refl _) (by simp only[List.length_cons];omega),QdG,if_neg (by simp[h]),if_pos h2]
 rfl
theorem QtO (h:Op.bytesLess x y=false)(h2:Op.bytesLess y x=false):Qaq lf bo ri (x::r) (y::s)=QbC bo x (Qaq lf bo ri r s):=by
 unfold Qaq
 rw[Y9 lf bo ri _ (r.length+s.length+1+1) (x::r) (y::s) (Nat.le_refl _) (by simp only[List.length_cons];omega),QdG,if_neg (by simp[h]),if_neg (by simp[h2]),Y9 lf bo ri _ (r.length+s.length) r s (by omega) (by omega)]
theorem Qiv {b:Bool}{x:Nm}{l acc u:List Nm}(h:b=true)(hg:acc++QbC b x l=u):(acc++[x])++l=u:=by
 rw[←hg,QbC,if_pos h];simp
theorem QlD {b:Bool}{x:Nm}{l acc u:List Nm}(h:b=false)(hg:acc++QbC b x l=u):acc++l=u:=by
 rw[←hg,QbC,if_neg (by simp[h])]
theorem Qbf (s:Nm):okE 1 (sv1 s)=true:=rfl
theorem Xi (x:AV):QT 1 1 [x]=[[x]]:=rfl
end
theorem QvH (hof:∀l:List Nm,QF l=true→l.length≤1000000→FC Tryz.prog 229 [Jz l] (Jz l))(a b:List Nm)(ha:QF a=true)(hb0:QF b=true)(hab:a.length+b.length≤1000000)(lf bo ri:Bool):FC Tryz.prog 214 [Jz a,Jz b,bl lf,bl bo,bl ri] (Jz (Qaq lf bo ri a b)):=by
 refine Qg [10] Tryz.func214 rfl rfl 87 Tryz.ntmps214 (Nat.le_of_ble_eq_true rfl) ?_
 intro E hN;refine Xy ?_;refine zP (Qd (hof a ha (by omega)) rfl rfl rfl) ?_;refine zM ?_;refine zP (Qd (hof b hb0 (by omega)) rfl rfl rfl) ?_;refine J6 ?_;refine QC (Qmc rfl 13 9 1 rfl) ?_
 refine Qq (fun x:{q:List Nm×List Nm×List Nm // q.2.2++Qaq lf bo ri q.1 q.2.1=Qaq lf bo ri a b∧q.2.2.length+q.1.length+q.2.1.length≤a.length+b.length}=>⟨[(2,bl lf),(3,bl bo),(4,bl ri),(11,Jz x.1.1),(12,Jz x.1.2.1),(13,.sl (x.1.2.2.map sv1) (some 0))],[(0,.tok 9 1 x.1.2.2.length)],1⟩) (fun x=>x.1.1.length+x.1.2.1.length) (⟨(a,b,[]),rfl,by simp⟩) ?_ ?_
 ·exact Qa rfl (Ks (Yw trivial)) ⟨rfl,rfl,rfl,trivial⟩
 rintro⟨⟨u,v,acc⟩,hg,hlen⟩;dsimp only at hg hlen ⊢
 rcases u with _|⟨x,r⟩<;>rcases v with _|⟨y,s⟩
 ·skip
  refine QL ?_;refine zP (QD (b:=false) rfl rfl rfl (by simp<;>omega)) ?_;refine QI ?_;refine zP (QD (b:=false) rfl rfl rfl (by simp<;>omega)) ?_;refine Jl ?_;refine zQ ?_;exact Qfb (by rw[←hg];simp[Qaq,QdG])
 ·skip
  refine QL ?_;refine zP (QD (b:=false) rfl rfl rfl (by simp<;>omega)) ?_;refine QI ?_;refine zP (QD (b:=true) rfl rfl rfl (by simp<;>omega)) ?_;refine Xy ?_;refine zD 17 ?_;refine QR ?_;refine zp (QD (b:=false) rfl rfl rfl (by simp<;>omega)) ?_;refine QI ?_;refine zp (QD (b:=false) rfl rfl rfl (by simp<;>omega)) ?_;refine WT ?_;refine zD 12 ?_;refine QR ?_;refine zp (QD (b:=true) rfl rfl rfl (by simp<;>omega)) ?_;refine QkJ ?_
  refine zq ?_ ?_<;>intro h10
  ·have hb:=h10
   refine QI ?_;refine zP (Qh rfl rfl rfl 0 rfl _ rfl rfl) ?_;refine zL ?_;refine zP (Q0 rfl rfl rfl rfl (by exact rfl) (by decide) (by decide)) ?_;refine Xp hN rfl rfl rfl (by simp) rfl rfl (QN Qbf _) rfl (by simp[Xi] at hlen ⊢ <;> omega) rfl rfl rfl rfl ?_;refine QK ?_;refine zP (KF rfl rfl rfl 1 rfl (by simp) (by exact fun _=>rfl)) ?_;refine zS ?_;refine Qc ?_
   exact⟨⟨([],s,acc++[y]),Qiv hb (by rw[←hg,Qwk]),by simp at hlen ⊢ <;> omega⟩,Qa rfl (Ks (X2 ⟨(cgL (by simp[sv1,Xi])),rfl,trivial⟩)) ⟨(cgT (by simp[Xi])),rfl,rfl,trivial⟩,by simp<;>omega⟩
  have hb:=h10
  refine QI ?_;refine zP (KF rfl rfl rfl 1 rfl (by simp) (by exact fun _=>rfl)) ?_;refine zS ?_;refine Qc ?_;exact⟨⟨([],s,acc),QlD hb (by rw[←hg,Qwk]),by simp at hlen ⊢ <;> omega⟩,Qa rfl (Ks (X2 ⟨(cgL (by simp)),rfl,trivial⟩)) ⟨(cgT (by simp)),rfl,rfl,trivial⟩,by simp<;>omega⟩
 ·skip
  refine QL ?_;refine zP (QD (b:=true) rfl rfl rfl (by simp<;>omega)) ?_;refine X5 ?_;refine zD 17 ?_;refine QR ?_;refine zp (QD (b:=true) rfl rfl rfl (by simp<;>omega)) ?_;refine QpI ?_
  refine zq ?_ ?_<;>intro h8
  ·have hb:=h8
   refine QI ?_;refine zP (Qh rfl rfl rfl 0 rfl _ rfl rfl) ?_;refine zL ?_;refine zP (Q0 rfl rfl rfl rfl (by exact rfl) (by decide) (by decide)) ?_;refine Xp hN rfl rfl rfl (by simp) rfl rfl (QN Qbf _) rfl (by simp[Xi] at hlen ⊢ <;> omega) rfl rfl rfl rfl ?_;refine QK ?_;refine zP (KF rfl rfl rfl 1 rfl (by simp) (by exact fun _=>rfl)) ?_;refine zS ?_;refine Qc ?_
   exact⟨⟨(r,[],acc++[x]),Qiv hb (by rw[←hg,Qwv]),by simp at hlen ⊢ <;> omega⟩,Qa rfl (Ks (X2 ⟨(cgL (by simp[sv1,Xi])),rfl,trivial⟩)) ⟨(cgT (by simp[Xi])),rfl,rfl,trivial⟩,by simp<;>omega⟩
  have hb:=h8
  refine QI ?_;refine zP (KF rfl rfl rfl 1 rfl (by simp) (by exact fun _=>rfl)) ?_;refine zS ?_;refine Qc ?_;exact⟨⟨(r,[],acc),QlD hb (by rw[←hg,Qwv]),by simp at hlen ⊢ <;> omega⟩,Qa rfl (Ks (X2 ⟨(cgL (by simp)),rfl,trivial⟩)) ⟨(cgT (by simp)),rfl,rfl,trivial⟩,by simp<;>omega⟩
 skip
 refine QL ?_;refine zP (QD (b:=true) rfl rfl rfl (by simp<;>omega)) ?_;refine X5 ?_;refine zD 17 ?_;refine QR ?_;refine zp (QD (b:=false) rfl rfl rfl (by simp<;>omega)) ?_;refine QI ?_;refine zp (QD (b:=true) rfl rfl rfl (by simp<;>omega)) ?_;refine QR ?_;refine zp (Qh rfl rfl rfl 0 rfl _ rfl rfl) ?_;refine QR ?_;refine zp (Qh rfl rfl rfl 0 rfl _ rfl rfl) ?_;refine XL ?_
 refine zq ?_ ?_<;>intro h42
 ·have hLt:=h42
  refine QL ?_
  refine zq ?_ ?_<;>intro h8
  ·have hb:=h8
   refine QI ?_;refine zP (Qh rfl rfl rfl 0 rfl _ rfl rfl) ?_;refine zL ?_;refine zP (Q0 rfl rfl rfl rfl (by exact rfl) (by decide) (by decide)) ?_;refine Xp hN rfl rfl rfl (by simp) rfl rfl (QN Qbf _) rfl (by simp[Xi] at hlen ⊢ <;> omega) rfl rfl rfl rfl ?_;refine QK ?_;refine zP (KF rfl rfl rfl 1 rfl (by simp) (by exact fun _=>rfl)) ?_;refine zS ?_;refine Qc ?_
   exact⟨⟨(r,y::s,acc++[x]),Qiv hb (by rw[←hg,Qs0 hLt]),by simp at hlen ⊢ <;> omega⟩,Qa rfl (Ks (X2 ⟨(cgL (by simp[sv1,Xi])),rfl,trivial⟩)) ⟨(cgT (by simp[Xi])),rfl,rfl,trivial⟩,by simp<;>omega⟩
  have hb:=h8
  refine QI ?_;refine zP (KF rfl rfl rfl 1 rfl (by simp) (by exact fun _=>rfl)) ?_;refine zS ?_;refine Qc ?_;exact⟨⟨(r,y::s,acc),QlD hb (by rw[←hg,Qs0 hLt]),by simp at hlen ⊢ <;> omega⟩,Qa rfl (Ks (X2 ⟨(cgL (by simp)),rfl,trivial⟩)) ⟨(cgT (by simp)),rfl,rfl,trivial⟩,by simp<;>omega⟩
 have hLt:=h42
 refine Yy ?_;refine zD 12 ?_;refine QR ?_;refine zp (QD (b:=false) rfl rfl rfl (by simp<;>omega)) ?_;refine QR ?_;refine zp (Qh rfl rfl rfl 0 rfl _ rfl rfl) ?_;refine QR ?_;refine zp (Qh rfl rfl rfl 0 rfl _ rfl rfl) ?_;refine QL ?_
 refine zq ?_ ?_<;>intro h54
 ·have hGt:=h54
  refine QL ?_
  refine zq ?_ ?_<;>intro h10
  ·have hb:=h10
   refine QI ?_;refine zP (Qh rfl rfl rfl 0 rfl _ rfl rfl) ?_;refine zL ?_;refine zP (Q0 rfl rfl rfl rfl (by exact rfl) (by decide) (by decide)) ?_;refine Xp hN rfl rfl rfl (by simp) rfl rfl (QN Qbf _) rfl (by simp[Xi] at hlen ⊢ <;> omega) rfl rfl rfl rfl ?_;refine QK ?_;refine zP (KF rfl rfl rfl 1 rfl (by simp) (by exact fun _=>rfl)) ?_;refine zS ?_;refine Qc ?_
   exact⟨⟨(x::r,s,acc++[y]),Qiv hb (by rw[←hg,Qtc hLt hGt]),by simp at hlen ⊢ <;> omega⟩,Qa rfl (Ks (X2 ⟨(cgL (by simp[sv1,Xi])),rfl,trivial⟩)) ⟨(cgT (by simp[Xi])),rfl,rfl,trivial⟩,by simp<;>omega⟩
  have hb:=h10
  refine QI ?_;refine zP (KF rfl rfl rfl 1 rfl (by simp) (by exact fun _=>rfl)) ?_;refine zS ?_;refine Qc ?_;exact⟨⟨(x::r,s,acc),QlD hb (by rw[←hg,Qtc hLt hGt]),by simp at hlen ⊢ <;> omega⟩,Qa rfl (Ks (X2 ⟨(cgL (by simp)),rfl,trivial⟩)) ⟨(cgT (by simp)),rfl,rfl,trivial⟩,by simp<;>omega⟩
 have hGt:=h54
 refine QL ?_
 refine zq ?_ ?_<;>intro h9
 ·have hb:=h9
  refine QI ?_;refine zP (Qh rfl rfl rfl 0 rfl _ rfl rfl) ?_;refine zL ?_;refine zP (Q0 rfl rfl rfl rfl (by exact rfl) (by decide) (by decide)) ?_;refine Xp hN rfl rfl rfl (by simp) rfl rfl (QN Qbf _) rfl (by simp[Xi] at hlen ⊢ <;> omega) rfl rfl rfl rfl ?_;refine zT ?_;refine zD 5 ?_;refine zm ?_;refine zp (KF rfl rfl rfl 1 rfl (by simp) (by exact fun _=>rfl)) ?_;refine zm ?_;refine zp (KF rfl rfl rfl 1 rfl (by simp) (by exact fun _=>rfl)) ?_;refine zp (JO rfl rfl) ?_;refine zS ?_;refine Qc ?_
  exact⟨⟨(r,s,acc++[x]),Qiv hb (by rw[←hg,QtO hLt hGt]),by simp at hlen ⊢ <;> omega⟩,Qa rfl (Ks (X2 ⟨(cgL (by simp[sv1,Xi])),rfl,trivial⟩)) ⟨(cgT (by simp[Xi])),rfl,rfl,trivial⟩,by simp<;>omega⟩
 have hb:=h9
 refine zW ?_;refine zD 5 ?_;refine zm ?_;refine zp (KF rfl rfl rfl 1 rfl (by simp) (by exact fun _=>rfl)) ?_;refine zm ?_;refine zp (KF rfl rfl rfl 1 rfl (by simp) (by exact fun _=>rfl)) ?_;refine zp (JO rfl rfl) ?_;refine zS ?_;refine Qc ?_;exact⟨⟨(r,s,acc),QlD hb (by rw[←hg,QtO hLt hGt]),by simp at hlen ⊢ <;> omega⟩,Qa rfl (Ks (X2 ⟨(cgL (by simp)),rfl,trivial⟩)) ⟨(cgT (by simp)),rfl,rfl,trivial⟩,by simp<;>omega⟩
theorem Qds (l:List Nm):∀e∈l.map sv1,fzs e=some e:=fun e he=>by
 obtain⟨x,-,rfl⟩:=List.mem_map.1 he
 rfl
theorem Qlm (l:List Nm)(hl:l.length≤1000000):FO Tryz.prog 197 [Jz l] 9 1 (l.map sv1):=by
 refine Qjb 2 Tryz.func197 rfl rfl 8 Tryz.ntmps197 (Nat.le_of_ble_eq_true rfl) ?_
 intro E hN;refine Jl ?_;refine QsI hN rfl rfl rfl rfl rfl rfl rfl (fun b hbb=>?_);refine zN ?_
 refine zq ?_ ?_<;>intro h2
 ·have hnil:l=[]:=by
   rcases l with _|⟨x,r⟩
   ·rfl
   have:=hbb (by simp);rw[this] at h2;cases h2
  subst hnil
  refine QK ?_;refine QC (QbN rfl 2 9 1 rfl) ?_;refine Qu ?_;exact⟨0,0,rfl,rfl,rfl,Qds []⟩
 refine QI ?_;refine QcT hN rfl rfl rfl rfl rfl rfl ?_;refine zM ?_;refine XA hN rfl rfl rfl rfl rfl rfl (QN Qbf _) (by simp;omega) rfl rfl rfl rfl ?_;refine zT ?_;refine Qu ?_;exact⟨0,_,rfl,by simp,rfl,Qds l⟩
theorem Qdd:∀a:Nm,Op.bytesLess a a=false
 |[]=>rfl
 |x::a=>by
  unfold Op.bytesLess
  simp[Qdd a,UInt8.lt_irrefl]
theorem QxT {a b:Nm}(h:Op.bytesLess a b=true):(b==a)=false:=by
 cases hb:(b==a) with
 |false=>rfl
 |true=>
  have:b=a:=by simpa using hb
  subst this
  rw[Qdd] at h;cases h
theorem QnL (l:List Nm)(hs0:QF l=true):FC Tryz.prog 240 [Jz l] (Jz l):=by
 refine Qg [2] Tryz.func240 rfl rfl 61 Tryz.ntmps240 (Nat.le_of_ble_eq_true rfl) ?_
 intro E hN;refine Jq 0 rfl (fun hl0=>?_);refine X5 ?_
 refine zq ?_ ?_<;>intro h3
 ·refine QK ?_;refine zQ ?_
  rfl
 refine Xy ?_;refine Qq (fun x:{k:Nat // 1≤k∧QF (l.drop (k-1))=QF l∧k≤l.length+1}=>⟨[(0,Jz l),(3,i64 (x.1:Nat))],[],0⟩) (fun x=>l.length+1-x.1) (⟨1,Nat.le_refl _,rfl,by omega⟩) ?_ ?_
 ·exact Qa rfl (Yw trivial) trivial
 rintro⟨k,hk,hg,hk2⟩;dsimp only;refine Jl ?_
 refine zq ?_ ?_<;>intro h7
 rotate_left
 ·refine QL ?_;refine zQ ?_
  rfl
 have hlt:k<l.length:=by simpa using h7
 obtain⟨x,hx⟩:=Qw hlt;obtain⟨y,hy⟩:=Qw (show k-1<l.length by omega)
 have hs:=Qet hk hg hy hx
 rw[hs0] at hs
 have hs1:(Op.bytesLess y x&&QF (l.drop k))=true:=hs.symm
 rw[Bool.and_eq_true] at hs1
 have hn:QF (l.drop (k+1-1))=QF l:=by rw[Nat.add_sub_cancel,hs0];exact hs1.2
 refine QK ?_;refine zD 9 ?_;refine QR ?_;refine zp (Qh rfl rfl rfl k rfl _ (Qt hx) rfl) ?_;refine QI ?_;refine zp (KV rfl rfl rfl (by omega)) ?_;refine zp (Qh rfl rfl rfl (k-1) (by omega) _ (Qt hy) rfl) ?_;refine zl ?_;refine zP (QD (b:=false) rfl rfl rfl (congrArg Value.bool (QxT hs1.1))) ?_;refine Xy ?_;refine Qc ?_;exact⟨⟨k+1,by omega,hn,by omega⟩,Qa rfl (X2 ⟨JC,rfl,trivial⟩) trivial,by dsimp only;omega⟩
end Go.Proofs.YtnkkokmmeplbgaaGreat
namespace Go.Proofs.YtnkkokmmeplbgaaGreat
set_option maxRecDepth 100000
set_option maxHeartbeats 1000000
open Go.RowKit
theorem QbE:∀ {a b d:Nm},Op.bytesLess a b=true→Op.bytesLess b d=true→Op.bytesLess a d=true
 |_,[],_,h,_=>by rename_i a _;cases a<;>simp[Op.bytesLess] at h
 |[],_::_,[],_,h=>by simp[Op.bytesLess] at h
 |[],_::_,_::_,_,_=>rfl
 |_::_,_::_,[],_,h=>by simp[Op.bytesLess] at h
 |x::a,y::b,z::d,h1,h2=>by
  unfold Op.bytesLess at h1 h2 ⊢
  simp only[Bool.or_eq_true,Bool.and_eq_true,decide_eq_true_eq,beq_iff_eq] at h1 h2 ⊢
  rcases h1 with h1|⟨rfl,h1⟩<;>rcases h2 with h2|⟨rfl,h2⟩
  ·exact .inl (UInt8.lt_trans h1 h2)
  ·exact .inl h1
  ·exact .inl h2
  exact .inr ⟨rfl,QbE h1 h2⟩
theorem QvJ:∀ {a b:Nm},Op.bytesLess a b=true→a≤b
 |[],_,_=>List.nil_le _
 |_::_,[],h=>by simp[Op.bytesLess] at h
 |x::a,y::b,h=>by
  rw[List.cons_le_cons_iff]
  unfold Op.bytesLess at h
  simp only[Bool.or_eq_true,Bool.and_eq_true,decide_eq_true_eq,beq_iff_eq] at h
  rcases h with h|⟨h1,h2⟩
  ·exact .inl h
  exact .inr ⟨h1,QvJ h2⟩
theorem Ye:∀ {l:List Nm},QF l=true→l.Pairwise (fun a b=>Op.bytesLess a b=true)
 |[],_=>List.Pairwise.nil
 |[_],_=>List.pairwise_singleton _ _
 |a::b::l,h=>by
  have h:(Op.bytesLess a b&&QF (b::l))=true:=h
  rw[Bool.and_eq_true] at h
  have ih:=Ye h.2
  refine List.Pairwise.cons (fun d hd=>?_) ih
  rcases List.mem_cons.1 hd with rfl|hd
  ·exact h.1
  exact QbE h.1 ((List.pairwise_cons.1 ih).1 d hd)
theorem Qqn {l:List Nm}(h:QF l=true):(l.mergeSort fun x y=>decide (x≤y))=l:=
 List.mergeSort_of_pairwise ((Ye h).imp (fun h=>by simpa using QvJ h))
theorem Qxy (l:List Nm)(hs0:QF l=true)(hl:l.length≤1000000):FC Tryz.prog 229 [Jz l] (Jz l):=by
 refine Qg [2] Tryz.func229 rfl rfl 10 Tryz.ntmps229 (Nat.le_of_ble_eq_true rfl) ?_
 intro E hN;refine Xy ?_;refine QvA hN rfl (Qlm l hl) (.fn _ _ _ _ rfl rfl) rfl rfl rfl rfl rfl ?_;refine QL ?_;refine Qt8 hN QtS Qqo l rfl rfl (by simp) rfl (by omega) rfl rfl rfl rfl ?_;rw[Qqn hs0];refine QR ?_;refine QC (JU 3 0 rfl rfl (by simp) (QN Qbf _) (Qds l) rfl) ?_;refine QR ?_;refine zP (Qd (QnL l hs0) rfl rfl rfl) ?_;refine zS ?_;refine zQ ?_
 rfl
theorem Qts (a b:List Nm)(ha:QF a=true)(hb:QF b=true)(hab:a.length+b.length≤1000000)(lf bo ri:Bool):FC Tryz.prog 214 [Jz a,Jz b,bl lf,bl bo,bl ri] (Jz (Qaq lf bo ri a b)):=QvH (fun l h1 h2=>Qxy l h1 h2) a b ha hb hab lf bo ri
theorem QiA (a b:List Nm)(ha:QF a=true)(hb:QF b=true)(hab:a.length+b.length≤1000000):FC Tryz.prog 194 [Jz a,Jz b] (Jz (Qaq true true true a b)):=by
 refine Qg [4] Tryz.func194 rfl rfl 8 Tryz.ntmps194 (Nat.le_of_ble_eq_true rfl) ?_
 intro E hN;refine Jl ?_;refine zP (Qd (Qts a b ha hb hab true true true) rfl rfl rfl) ?_;refine zS ?_;refine zQ ?_
 rfl
theorem QnK (l:List Nm)(hl:l.length≤1000000):FC Tryz.prog 197 [Jz l] (Jz l):=Qll (Qlm l hl) (QN Qbf _)
theorem Qot (l:List Tk):∀e∈l.map tkC,fzs e=some e:=fun e he=>by
 obtain⟨x,-,rfl⟩:=List.mem_map.1 he
 rfl
theorem QnC (l:List Tk)(hl:l.length≤1000000):FO Tryz.prog 198 [tks l] 192 2 (l.map tkC):=by
 refine Qjb 2 Tryz.func198 rfl rfl 8 Tryz.ntmps198 (Nat.le_of_ble_eq_true rfl) ?_
 intro E hN;refine Jl ?_;refine QsI hN rfl rfl rfl rfl rfl rfl rfl (fun b hbb=>?_);refine zN ?_
 refine zq ?_ ?_<;>intro h2
 ·have hnil:l=[]:=by
   rcases l with _|⟨x,r⟩
   ·rfl
   have:=hbb (by simp);rw[this] at h2;cases h2
  subst hnil
  refine QK ?_;refine QC (QbN rfl 2 192 2 rfl) ?_;refine Qu ?_;exact⟨0,0,rfl,rfl,rfl,Qot []⟩
 refine QI ?_;refine QcT hN rfl rfl rfl rfl rfl rfl ?_;refine zM ?_;refine XA hN rfl rfl rfl rfl rfl rfl (QN Qff _) (by simp;omega) rfl rfl rfl rfl ?_;refine zT ?_;refine Qu ?_;exact⟨0,_,rfl,by simp,rfl,Qot l⟩
theorem QnZ (l:List Tk)(hl:l.length≤1000000):FC Tryz.prog 198 [tks l] (tks l):=Qll (QnC l hl) (QN Qff _)
end Go.Proofs.YtnkkokmmeplbgaaGreat
