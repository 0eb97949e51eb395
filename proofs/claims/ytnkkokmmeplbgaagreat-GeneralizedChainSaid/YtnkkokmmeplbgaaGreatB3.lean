/-
  Contracts: descriptions of lattices are checked: Check.
-/
import Derived.Test.YtnkkokmmeplbgaaGreatB2
namespace Go.Proofs.YtnkkokmmeplbgaaGreat
set_option maxRecDepth 100000
set_option maxHeartbeats 1000000
open Go.RowKit
theorem Qt4 (l:List Nm):l.zipIdx.length=l.length:=by simp
theorem Qk9 {l:Qv}(h:XB l=0)(hk:l.k=7):∃a r,l.ps=a::r:=by
 unfold XB at h
 have hkn:Y6 l.k=true:=by rw[hk];decide
 rw[if_pos hkn] at h
 have hb:Wh l=false:=by
  cases hb:Wh l
  ·rfl
  rw[hb] at h;simp[Yi] at h
 cases hp:l.ps with
 |cons a r=>exact⟨a,r,rfl⟩
 |nil=>
  simp[Wh,Yb,hk,hp] at hb
section
variable {g:Qv→Int→Int×Int}{l:List Qv}{k:Nat}{x:Qv}{m:Int}{v:Int×Int}
theorem Qv3 (hg:JZ g (l.drop k) m=v)(h:l[k]?=some x)(h0:((g x m).1 != 0)=false):JZ g (l.drop (k+1)) (g x m).2=v:=by
 rw[XI h] at hg
 unfold JZ at hg
 rwa [if_pos (by simpa using h0)] at hg
theorem Qj2 (hg:JZ g (l.drop k) m=v)(h:l[k]?=some x)(h0:((g x m).1 != 0)=true):g x m=v:=by
 rw[XI h] at hg
 unfold JZ at hg
 rwa [if_neg (by simpa using h0)] at hg
theorem Qn7 (hg:JZ g (l.drop k) m=v)(h:l.length≤k):(0,m)=v:=by
 rw[List.drop_of_length_le h] at hg;exact hg
end
theorem Qqs (l:Qv)(hl:l.k=7→∃a r,l.ps=a::r):FC Tryz.prog 157 [.agg (Q7 l)] (i64 (JA l)):=by
 refine Qg [2] Tryz.func157 rfl rfl 15 Tryz.ntmps157 (Nat.le_of_ble_eq_true rfl) ?_
 intro E hN;refine X5 ?_
 refine zc 6 ?_ ?_<;>intro h5
 ·obtain⟨a,r,hp⟩:=hl (by simpa using h5)
  have ha:l.ps[0]?=some a:=by rw[hp];rfl
  refine QR ?_;refine uP (XT h5) (Qh rfl rfl rfl 0 rfl _ (X9 ha) rfl) ?_;refine Yy ?_;refine uP (XT h5) (Qd (Qsh a) rfl rfl rfl) ?_;refine QR ?_;refine zP (Qd (Qaj _ _) rfl rfl rfl) ?_;refine zS ?_;refine zQ ?_;exact Q1 (by first|(simp only[JA, *];simp;done)|(simp only[JA, *];simp))
 refine Xy ?_;refine zP (Qd (Qaj _ _) rfl rfl rfl) ?_;refine zS ?_;refine zQ ?_;exact Q1 (by first|(simp only[JA,hp, *];simp;done)|(simp only[JA, *];simp))
theorem Ql3 (l:Qv):FC Tryz.prog 155 [.agg (Q7 l)] (i64 (Jx l)):=by
 refine Qg [2] Tryz.func155 rfl rfl 75 Tryz.ntmps155 (Nat.le_of_ble_eq_true rfl) ?_
 intro E hN;refine WT ?_;refine Qq (fun x:{k:Nat // k≤(l.nm).length∧(l.nm.zipIdx.drop k).all (Qbc l)=l.nm.zipIdx.all (Qbc l)}=>⟨[(1,.ptr 0 0),(8,Jz l.nm),(9,i64 l.nm.length),(10,i64 (x.1:Nat))],[(0,.var 26 (Q7 l))],1⟩) (fun x=>(l.nm).length-x.1) (⟨0,Nat.zero_le _,by simp⟩) ?_ ?_
 ·exact Qa rfl (Yw ⟨(Y5 (by simp)),rfl,(X2 trivial)⟩) ⟨rfl,rfl,rfl,trivial⟩
 rintro⟨k,hk,hg⟩;dsimp only;refine Jq 8 rfl (fun hl8=>?_);refine QL ?_
 refine zq ?_ ?_<;>intro h9
 ·have hlt:k<(l.nm).length:=by simpa using h9
  obtain⟨x,hx⟩:=Qw hlt;refine XL ?_;refine zP (Qh rfl rfl rfl k rfl _ (Qt hx) rfl) ?_;refine Xy ?_;refine zP (Qd (QfR _) rfl rfl rfl) ?_;refine QR ?_
  refine zc 18 ?_ ?_<;>intro h12
  ·refine QkJ ?_;refine zQ ?_;exact Q1 (by rw[Jx,Xe hg (Qhi hx) (by simp_all [Qbc])];simp)
  refine QK ?_
  refine zc 22 ?_ ?_<;>intro h15
  rotate_left
  ·refine XL ?_;refine uP (X3 (m1 (n0 h12))) (XG rfl rfl h15 rfl) ?_;refine Xy ?_;refine Qc ?_;exact⟨⟨k+1,hlt,XO hg (Qhi hx) (by simp_all [Qbc])⟩,Qa rfl (YG ⟨JC,rfl,trivial⟩) ⟨rfl,rfl,rfl,trivial⟩,by dsimp only;omega⟩
  refine QI ?_;refine uP (XT h15) (Qvw rfl rfl rfl k rfl (by omega) (by exact fun _=>rfl)) ?_;refine Yy ?_;refine uP (XT h15) (Qd (QgL _ _) rfl rfl rfl) ?_;refine uP (X3 (m1 (n0 h12))) (XK rfl rfl h15 rfl) ?_;refine QR ?_
  refine zq ?_ ?_<;>intro h19
  ·refine QI ?_;refine zQ ?_;exact Q1 (by rw[Jx,Xe hg (Qhi hx) (by simp_all [Qbc])];simp)
  refine QK ?_;refine Qc ?_;exact⟨⟨k+1,hlt,XO hg (Qhi hx) (by simp_all [Qbc])⟩,Qa rfl (YG ⟨JC,rfl,trivial⟩) ⟨rfl,rfl,rfl,trivial⟩,by dsimp only;omega⟩
 have hge:(l.nm).length≤k:=by simpa using h9
 have hA:=Jf hg (by rw[Qt4];exact hge)
 refine QR ?_;refine JI (⟨[(1,.ptr 0 0),(40,bl (l.k != 6 && !QF l.nm))],[(0,.var 26 (Q7 l))],1⟩) ?_ ?_
 ·refine QL ?_
  refine zc 35 ?_ ?_<;>intro h24
  ·refine QR ?_;refine uP (XT h24) (Qd (Qbv _) rfl rfl rfl) ?_;refine QR ?_;refine Qc ?_;exact Qa rfl (X2 ⟨(KM (by simp_all)),rfl,trivial⟩) ⟨rfl,rfl,rfl,trivial⟩
  refine QL ?_;refine Qc ?_;exact Qa rfl (X2 ⟨(KM (by simp_all)),rfl,trivial⟩) ⟨rfl,rfl,rfl,trivial⟩
 refine zq ?_ ?_<;>intro h28
 ·refine QI ?_;refine zQ ?_;exact Q1 (by rw[Jx,hA];simp_all)
 refine XR ?_;refine Qq (fun x:{k:Nat // k≤(l.rs).length∧(l.rs.drop k).all (Qac l.nm)=l.rs.all (Qac l.nm)}=>⟨[(1,.ptr 0 0),(42,rus l.rs),(43,i64 l.rs.length),(44,i64 (x.1:Nat))],[(0,.var 26 (Q7 l))],1⟩) (fun x=>(l.rs).length-x.1) (⟨0,Nat.zero_le _,by simp⟩) ?_ ?_
 ·exact Qa rfl (Yw ⟨(Y5 (by simp)),rfl,(X2 trivial)⟩) ⟨rfl,rfl,rfl,trivial⟩
 rintro⟨k,hk,hg⟩;dsimp only;refine Jq 42 rfl (fun hl8=>?_);refine QL ?_
 refine zq ?_ ?_<;>intro h35
 rotate_left
 ·have hge:(l.rs).length≤k:=by simpa using h35
  refine QK ?_;refine zQ ?_;exact Q1 (by rw[Jx,hA,Jf hg hge];simp_all<;>(intros;simp_all))
 have hlt:k<(l.rs).length:=by simpa using h35
 obtain⟨x,hx⟩:=Qw hlt;refine QL ?_;refine zP (Qh rfl rfl rfl k rfl _ (Qt hx) rfl) ?_;refine X5 ?_
 refine zc 52 ?_ ?_<;>intro h43
 ·refine Qha ?_;refine QR ?_;refine zQ ?_;exact Q1 (by rw[Jx,Xe hg hx (by simp_all [Qac])];simp)
 refine QR ?_;refine uP (X3 h43) (Qd (Qbv _) rfl rfl rfl) ?_;refine QI ?_
 refine zc 58 ?_ ?_<;>intro h46
 ·refine Qf2 ?_;refine zQ ?_;exact Q1 (by rw[Jx,Xe hg hx (by simp_all [Qac])];simp)
 refine QK ?_;refine uP (X3 (m1 (n0 h46))) (Qd (Qem _ _) rfl rfl rfl) ?_;refine QI ?_
 refine zc 66 ?_ ?_<;>intro h51
 ·refine JF ?_;refine zQ ?_;exact Q1 (by rw[Jx,Xe hg hx (by simp_all [Qac])];simp)
 refine QK ?_;refine uP (X3 (m1 (n0 h51))) (Qd (Qkl _ _) rfl rfl rfl) ?_;refine QI ?_
 refine zq ?_ ?_<;>intro h56
 ·refine QI ?_;refine zQ ?_;exact Q1 (by rw[Jx,Xe hg hx (by simp_all [Qac])];simp)
 refine QK ?_;refine Qc ?_;exact⟨⟨k+1,hlt,XO hg hx (by simp_all [Qac])⟩,Qa rfl (YG ⟨JC,rfl,trivial⟩) ⟨rfl,rfl,rfl,trivial⟩,by dsimp only;omega⟩
theorem Qw6 (l:List Int):FC Tryz.prog 153 [ivs l] (i64 (orE l)):=by
 refine Qg [2] Tryz.func153 rfl rfl 18 Tryz.ntmps153 (Nat.le_of_ble_eq_true rfl) ?_
 intro E hN;refine Jq 0 rfl (fun hl0=>?_);refine QbP ?_;refine Qq (fun x:{k:Nat // k≤(l).length∧orE (l.drop k)=orE l}=>⟨[(3,i64 0),(6,ivs l),(7,i64 l.length),(8,i64 (x.1:Nat))],[],0⟩) (fun x=>(l).length-x.1) (⟨0,Nat.zero_le _,by simp⟩) ?_ ?_
 ·exact Qa rfl (Yw ⟨(Y5 (by simp)),rfl,(X2 trivial)⟩) trivial
 rintro⟨k,hk,hg⟩;dsimp only;refine QL ?_
 refine zq ?_ ?_<;>intro h6
 rotate_left
 ·have hge:(l).length≤k:=by simpa using h6
  refine QL ?_;refine zQ ?_;exact Q1 (by rw[←hg,List.drop_of_length_le hge];rfl)
 have hlt:k<(l).length:=by simpa using h6
 obtain⟨x,hx⟩:=Qw hlt
 have hs:orE l=if x==0 then orE (l.drop (k+1)) else x:=by rw[←hg,XI hx];rfl
 refine QL ?_;refine zP (Qh rfl rfl rfl k rfl _ (Qt hx) rfl) ?_;refine J6 ?_
 refine zq ?_ ?_<;>intro h9
 ·refine QK ?_;refine zQ ?_;exact Q1 (by rw[hs,if_neg (by simp_all)])
 have hn:orE (l.drop (k+1))=orE l:=by rw[hs,if_pos (by simpa using h9)]
 refine QK ?_;refine Qc ?_;exact⟨⟨k+1,hlt,hn⟩,Qa rfl (YG ⟨JC,rfl,trivial⟩) trivial,by dsimp only;omega⟩
theorem Qu1 (l:Qv)(n d:Int)(hd:d=7):GC Tryz.prog 126 [.ptr Qf 0,.agg (Q7 l),i64 d] [(Qf,.var 164 [i64 n])] (i64 (Xk 0 l n).1) [(Qf,.var 164 [i64 (Xk 0 l n).2])]:=by
 subst hd
 refine Yn [6] Tryz.func126 rfl rfl 62 Tryz.ntmps126 (Nat.le_of_ble_eq_true rfl) ?_
 intro E hN;refine X5 ?_
 refine zc 14 ?_ ?_<;>intro h5
 ·refine JF ?_;refine Qu ?_;change (Xz _ _).fzt=some _∧_;refine Qd1 rfl ?_ rfl ?_ rfl
  all_goals rfl
 exact absurd h5 (by decide)
section
variable {f:Nat}{l:Qv}{n:Int}
theorem QlS (h:n≥64):Xk (f+1) l n=(6,n):=by unfold Xk;rw[if_pos h]
theorem QfH (h:n<64)(h1:(XB l != 0)=true):Xk (f+1) l n=(XB l,n+1):=by
 unfold Xk;rw[if_neg (by omega),if_pos h1]
theorem Qr4 (h:n<64)(h1:(XB l != 0)=false)(h2:(orE [JS l,Jx l,Je l,JA l] != 0)=true):Xk (f+1) l n=(orE [JS l,Jx l,Je l,JA l],n+1):=by
 unfold Xk;rw[if_neg (by omega),if_neg (by rw[h1];decide),if_pos h2]
theorem Qc5 (h:n<64)(h1:(XB l != 0)=false)(h2:(orE [JS l,Jx l,Je l,JA l] != 0)=false):Xk (f+1) l n=JZ (Xk f) l.ps (n+1):=by
 unfold Xk;rw[if_neg (by omega),if_neg (by rw[h1];decide),if_neg (by rw[h2];decide)]
end
theorem QvF (f:Nat)(hf:f+1≤6)(ih:∀(l:Qv) (n d:Int),d=7-(f:Int)→0≤n→GC Tryz.prog 126 [.ptr Qf 0,.agg (Q7 l),i64 d] [(Qf,.var 164 [i64 n])] (i64 (Xk f l n).1) [(Qf,.var 164 [i64 (Xk f l n).2])])(l:Qv)(n d:Int)(hd:d=7-((f+1:Nat):Int))(hn:0≤n):GC Tryz.prog 126 [.ptr Qf 0,.agg (Q7 l),i64 d] [(Qf,.var 164 [i64 n])] (i64 (Xk (f+1) l n).1) [(Qf,.var 164 [i64 (Xk (f+1) l n).2])]:=by
 refine Yn [6] Tryz.func126 rfl rfl 62 Tryz.ntmps126 (Nat.le_of_ble_eq_true rfl) ?_
 intro E hN;refine X5 ?_
 refine zc 14 ?_ ?_<;>intro h5
 ·exact absurd h5 (by simp;omega)
 refine Xy ?_
 refine zq ?_ ?_<;>intro h8
 ·have h64:n≥64:=by simpa using h8
  refine QK ?_;refine Qu ?_;change (Xz _ _).fzt=some _∧_;refine Qd1 rfl ?_ rfl ?_ rfl
  ·exact Q1 (by rw[QlS h64])
  show Qj.var _ [i64 _]=Qj.var _ [i64 _]
  rw[QlS h64]
 have h64:n<64:=by simpa using h8
 refine QbP ?_;refine zP (Qd (Qtl _) rfl rfl rfl) ?_;refine Xy ?_
 refine zq ?_ ?_<;>intro h16
 ·have h5:=h16
  refine QL ?_;refine Qu ?_;change (Xz _ _).fzt=some _∧_;refine Qd1 rfl ?_ rfl ?_ rfl
  ·exact Q1 (by rw[QfH h64 h5])
  show Qj.var _ [i64 _]=Qj.var _ [i64 _]
  rw[QfH h64 h5]
 have h5:=h16
 refine QI ?_;refine zD 10 ?_;refine zl ?_;refine zp (Qd (QpJ _) rfl rfl rfl) ?_;refine zl ?_;refine zp (Qd (Ql3 _) rfl rfl rfl) ?_;refine zl ?_;refine zp (Qd (QpN _) rfl rfl rfl) ?_;refine zl ?_;refine zp (Qd (Qqs _ (fun h=>Qk9 (by simpa using h5) h)) rfl rfl rfl) ?_;refine zp (Q0 rfl rfl rfl rfl (by exact rfl) (by decide) (by decide)) ?_;refine zp (Qd (Qw6 [JS l,Jx l,Je l,JA l]) rfl rfl rfl) ?_;refine Xy ?_
 refine zq ?_ ?_<;>intro h27
 ·have h8:=h27
  refine QL ?_;refine Qu ?_;change (Xz _ _).fzt=some _∧_;refine Qd1 rfl ?_ rfl ?_ rfl
  ·exact Q1 (by rw[Qr4 h64 h5 h8])
  show Qj.var _ [i64 _]=Qj.var _ [i64 _]
  rw[Qr4 h64 h5 h8]
 have h8:=h27
 refine XR ?_;refine Qq (fun x:{q:Nat×Int // q.1≤l.ps.length∧0≤q.2∧JZ (Xk f) (l.ps.drop q.1) q.2=JZ (Xk f) l.ps (n+1)}=>⟨[(0,.ptr Qf 0),(2,i64 d),(47,QiL l.ps),(48,i64 l.ps.length),(49,i64 (x.1.1:Nat))],[(Qf,.var 164 [i64 x.1.2])],1⟩) (fun x=>l.ps.length-x.1.1) (⟨(0,n+1),Nat.zero_le _,by show 0≤n+1;omega,by simp⟩) ?_ ?_
 ·exact Qa rfl (YG ⟨(Y5 (by simp)),rfl,(X2 trivial)⟩) ⟨rfl,rfl,rfl,trivial⟩
 rintro⟨⟨k,m⟩,hk,hm,hg⟩;dsimp only at hk hm hg ⊢;refine Jq 47 rfl (fun hl8=>?_);refine QL ?_
 refine zq ?_ ?_<;>intro h34
 rotate_left
 ·have hge:(l.ps).length≤k:=by simpa using h34
  refine QL ?_;refine Qu ?_;change (Xz _ _).fzt=some _∧_;refine Qd1 rfl ?_ rfl ?_ rfl
  ·exact Q1 (by rw[Qc5 h64 h5 h8,←Qn7 hg hge])
  show Qj.var _ [i64 _]=Qj.var _ [i64 _]
  rw[Qc5 h64 h5 h8,←Qn7 hg hge]
 have hlt:k<(l.ps).length:=by simpa using h34
 obtain⟨x,hx⟩:=Qw hlt;refine QL ?_;refine zP (Qh rfl rfl rfl k rfl _ (X9 hx) rfl) ?_;refine XR ?_;refine QhG hN Qf (ih x m _ (by omega) hm) (.fn _ _ _ _ rfl rfl) rfl rfl rfl rfl rfl rfl rfl rfl rfl rfl rfl ?_;refine Xy ?_
 refine zq ?_ ?_<;>intro h42
 ·have h14:=h42
  refine QL ?_;refine Qu ?_;change (Xz _ _).fzt=some _∧_;refine Qd1 rfl ?_ rfl ?_ rfl
  ·exact Q1 (by rw[Qc5 h64 h5 h8,←hg,Qj2 rfl hx h14])
  show Qj.var _ [i64 _]=Qj.var _ [i64 _]
  rw[Qc5 h64 h5 h8,←hg,Qj2 rfl hx h14]
 have h14:=h42
 refine QK ?_;refine Qc ?_;exact⟨⟨(k+1,(Xk f x m).2),hlt,QgB _ _ _ hm,Qv3 hg hx h14⟩,Qa rfl (Ks ⟨JC,rfl,trivial⟩) ⟨rfl,rfl,rfl,trivial⟩,by dsimp only;omega⟩
theorem Qlg:∀(f:Nat) (l:Qv) (n d:Int),f≤6→d=7-(f:Int)→0≤n→GC Tryz.prog 126 [.ptr Qf 0,.agg (Q7 l),i64 d] [(Qf,.var 164 [i64 n])] (i64 (Xk f l n).1) [(Qf,.var 164 [i64 (Xk f l n).2])]
 |0,l,n,d,_,hd,_=>Qu1 l n d (by simpa using hd)
 |f+1,l,n,d,hf,hd,hn=>QvF f hf (fun l n d h1 h2=>Qlg f l n d (by omega) h1 h2) l n d hd hn
theorem QcB (l:Qv):FC Tryz.prog 77 [.agg (Q7 l)] (i64 (QJ l)):=by
 refine Qg [2] Tryz.func77 rfl rfl 7 Tryz.ntmps77 (Nat.le_of_ble_eq_true rfl) ?_
 intro E hN;refine WT ?_;refine QhG hN 1 (Qlg 6 l 0 1 (by decide) rfl (by decide)) (.fn _ _ _ _ rfl rfl) rfl rfl rfl rfl rfl rfl rfl rfl rfl rfl rfl ?_;refine zS ?_;refine zQ ?_
 rfl
end Go.Proofs.YtnkkokmmeplbgaaGreat
