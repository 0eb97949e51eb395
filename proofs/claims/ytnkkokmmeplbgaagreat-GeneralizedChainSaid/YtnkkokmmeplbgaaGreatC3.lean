/-
  Contracts of the reference: descriptions are checked.
-/
import Derived.Test.YtnkkokmmeplbgaaGreatC2
import Derived.Test.YtnkkokmmeplbgaaGreatB11
namespace Go.Proofs.YtnkkokmmeplbgaaGreat
set_option maxRecDepth 100000
set_option maxHeartbeats 1000000
open Go.RowKit
section
variable {l:Qv}
def Jj (l:Qv):Bool:=(!(l.k==2||l.k==3)&&(l.lo != 0||l.hi != 0))||(l.k != 10&&((l.rs.length:Int) != 0))
theorem Qbu (h:Jj l=true):(XB l==0)=false:=by
 unfold XB
 split
 ·have:Wh l=true:=by
   unfold Wh
   unfold Jj at h
   simp only[Bool.or_eq_true,Bool.and_eq_true,Bool.not_eq_true',bne_iff_ne,ne_eq] at h ⊢
   rcases h with h|h
   ·right
    refine⟨?_,?_⟩
    ·unfold Jg;exact h.1
    exact h.2
   left;right
   refine⟨by simpa using h.1,decide_eq_true (by have:=h.2;omega)⟩
  rw[this];rfl
 rfl
theorem Qje (h:Jj l=false)(hk:Y6 l.k=true):(XB l==0)=(((l.ps.length:Int)==Yb l) && !(!Jm l.k&&decide ((l.nm.length:Int) > 0)) && !YS l):=by
 unfold Jj at h
 simp only[Bool.or_eq_false_iff,Bool.and_eq_false_iff,Bool.not_eq_false',bne_eq_false_iff_eq] at h
 have h1:(!(l.k==10)&&decide ((l.rs.length:Int) > 0))=false:=by
  rcases h.2 with h2|h2
  ·rw[h2];rfl
  rw[decide_eq_false (by omega),Bool.and_false]
 have h2:(!Jg l.k&&(l.lo != 0||l.hi != 0))=false:=by
  rcases h.1 with h3|h3
  ·unfold Jg;rw[h3];rfl
  rw[h3.1,h3.2];simp
 unfold XB Wh bne
 unfold bne at h2
 rw[if_pos hk,h1,h2,Bool.or_false,Bool.or_false]
 cases((l.ps.length:Int)==Yb l)<;>cases(!Jm l.k&&decide ((l.nm.length:Int) > 0))<;>cases YS l<;>rfl
theorem Qv8 (hk:Y6 l.k=false):(XB l==0)=false:=by
 unfold XB
 rw[if_neg (by rw[hk];decide)];rfl
theorem gt0 {n:Nat}:decide ((n:Int) > 0) = !((n:Int)==0):=by
 by_cases h:n=0
 ·subst h;rfl
 rw[decide_eq_true (by omega),beq_eq_false_iff_ne.2 (by omega)];rfl
theorem QiF (h5:l.k≠5)(h7:l.k≠7)(h6:l.k≠6):Yb l=0:=by unfold Yb;rw[if_neg h5,if_neg h7,if_neg h6]
theorem Quw (h:Jj l=false)(hk:l.k=1∨l.k=2∨l.k=3∨l.k=9):(XB l==0)=((l.nm.length:Int)==0&&(l.ps.length:Int)==0):=by
 rw[Qje h (by rcases hk with hk|hk|hk|hk<;>rw[hk]<;>rfl),QiF (by omega) (by omega) (by omega),gt0,show Jm l.k=false by rcases hk with hk|hk|hk|hk<;>rw[hk]<;>rfl,show YS l=false by unfold YS;rcases hk with hk|hk|hk|hk<;>rw[hk]<;>rfl]
 cases((l.nm.length:Int)==0)<;>cases((l.ps.length:Int)==0)<;>rfl
theorem QxR (h:Jj l=false)(hk:l.k=4∨l.k=8):(XB l==0)=((l.ps.length:Int)==0):=by
 rw[Qje h (by rcases hk with hk|hk<;>rw[hk]<;>rfl),QiF (by omega) (by omega) (by omega),show Jm l.k=true by rcases hk with hk|hk<;>rw[hk]<;>rfl,show YS l=false by unfold YS;rcases hk with hk|hk<;>rw[hk]<;>rfl]
 cases((l.ps.length:Int)==0)<;>rfl
theorem Qxu (h:Jj l=false)(hk:l.k=5):(XB l==0)=((l.ps.length:Int)==1):=by
 rw[Qje h (by rw[hk];rfl),show Yb l=1 by unfold Yb;rw[if_pos hk],show Jm l.k=true by rw[hk];rfl,show YS l=false by unfold YS;rw[hk];rfl]
 cases((l.ps.length:Int)==1)<;>rfl
theorem QuD (h:Jj l=false)(hk:l.k=6):(XB l==0)=(decide ((l.nm.length:Int) > 0)&&((l.nm.length:Int)==l.ps.length)):=by
 rw[Qje h (by rw[hk];rfl),show Yb l=l.nm.length by unfold Yb;rw[hk];rfl,show Jm l.k=true by rw[hk];rfl,show YS l=((l.nm.length:Int)==0) by unfold YS;rw[hk];rfl,gt0,show((l.ps.length:Int)==l.nm.length)=((l.nm.length:Int)==l.ps.length) from BEq.comm]
 cases((l.nm.length:Int)==0)<;>cases((l.nm.length:Int)==l.ps.length)<;>rfl
theorem Que (h:Jj l=false)(hk:l.k=7):(XB l==0)=((l.nm.length:Int)==0&&(l.ps.length:Int)==2):=by
 rw[Qje h (by rw[hk];rfl),show Yb l=2 by unfold Yb;rw[hk];rfl,gt0,show Jm l.k=false by rw[hk];rfl,show YS l=false by unfold YS;rw[hk];rfl]
 cases((l.nm.length:Int)==0)<;>cases((l.ps.length:Int)==2)<;>rfl
theorem Qoy (h:Jj l=false)(hk:l.k=10):(XB l==0)=(decide ((l.nm.length:Int) > 0)&&((l.ps.length:Int)==0)):=by
 rw[Qje h (by rw[hk];rfl),QiF (by omega) (by omega) (by omega),show Jm l.k=true by rw[hk];rfl,show YS l=((l.nm.length:Int)==0) by unfold YS;rw[hk];rfl,gt0]
 cases((l.nm.length:Int)==0)<;>cases((l.ps.length:Int)==0)<;>rfl
def QhO (nm:List Nm)(r:Ru):Bool := !((r.i.length:Int)==0)&&QdB r.i&&JL nm r.t&&r.i.all (JL nm)
def Qbe (l:Qv):Bool:=if l.k==6 then l.nm.zipIdx.all fun q=>XU q.1 && !JL (l.nm.take q.2) q.1 else QdB l.nm&&l.rs.all (QhO l.nm)
theorem Qi8:∀(l:List Nm) (n:Nat),((l.zipIdx n).all fun q=>XU q.1)=l.all XU
 |[],_=>rfl
 |x::r,n=>by rw[List.zipIdx_cons,List.all_cons,List.all_cons,Qi8 r]
theorem Qel (hs:XB l=0):Qbe l=(Jx l==0):=by
 have hrs:l.k≠10→l.rs=[]:=fun hk=>by
  cases hst:Jj l
  ·unfold Jj at hst
   simp only[Bool.or_eq_false_iff,Bool.and_eq_false_iff,bne_eq_false_iff_eq] at hst
   rcases hst.2 with h|h
   ·exact absurd h hk
   exact List.eq_nil_of_length_eq_zero (by omega)
  have:=Qbu hst
  rw[hs] at this;cases this
 unfold Qbe Jx
 by_cases h6:l.k=6
 ·rw[if_pos (by rw[h6];rfl),hrs (by omega)]
  have:l.nm.zipIdx.all (Qbc l)=l.nm.zipIdx.all fun q=>XU q.1 && !JL (l.nm.take q.2) q.1:=by
   congr 1
   funext q
   unfold Qbc
   rw[h6];rfl
  rw[this,h6]
  simp only[beq_self_eq_true,Bool.true_or,Bool.and_true,List.all_nil]
  cases l.nm.zipIdx.all fun q=>XU q.1 && !JL (l.nm.take q.2) q.1<;>rfl
 have hk6:(l.k==6)=false:=beq_eq_false_iff_ne.2 h6
 rw[if_neg (by rw[hk6];decide),hk6]
 have:l.nm.zipIdx.all (Qbc l)=l.nm.all XU:=by
  rw[←Qi8 l.nm 0]
  congr 1
  funext q
  unfold Qbc
  rw[hk6];simp
 rw[this,Bool.false_or]
 by_cases hv:l.nm.all XU=true
 ·have hr:l.rs.all (QhO l.nm)=l.rs.all (Qac l.nm):=by
   have:∀r,QhO l.nm r=Qac l.nm r:=fun r=>by
    unfold QhO Qac QdB
    have hsub:Yu r.i l.nm=r.i.all (JL l.nm):=rfl
    rw[hsub]
    cases ha:r.i.all (JL l.nm)
    ·simp
    have hva:r.i.all XU=true:=by
     rw[List.all_eq_true] at ha hv ⊢
     exact fun x hx=>hv x (Y2.1 (ha x hx))
    rw[hva]
    cases(!((r.i.length:Int)==0))<;>cases QF r.i<;>cases JL l.nm r.t<;>rfl
   congr 1
   funext r
   exact this r
  unfold QdB
  rw[hr,hv]
  cases QF l.nm<;>cases l.rs.all (Qac l.nm)<;>rfl
 rw[Bool.not_eq_true] at hv
 unfold QdB
 rw[hv];rfl
end
theorem Qik (l:Qv):FC Tryz.prog 176 [.agg (Q7 l)] (bl (XB l==0)):=by
 refine Qg [2] Tryz.func176 rfl rfl 104 Tryz.ntmps176 (Nat.le_of_ble_eq_true rfl) ?_
 intro E hN;refine X5 ?_
 refine zc 7 ?_ ?_<;>intro h5
 ·refine XL ?_;refine QdV (⟨[(1,.ptr 0 0)],[(0,.var 26 (Q7 l))],1⟩) (Jj l=false) ?_ ?_
  ·refine QeV ?_
   refine zc 28 ?_ ?_<;>intro h8
   ·refine Xy ?_
    refine zq ?_ ?_<;>intro h12
    ·refine QI ?_;refine zQ ?_;exact Qr (Qbu (by first|(simp_all [Jj];done)|(simp_all [Jj];omega))).symm
    refine QM ?_;exact⟨(by first|(simp_all [Jj];done)|(simp_all [Jj];omega)),Qa rfl (X2 trivial) ⟨rfl,rfl,rfl,trivial⟩⟩
   refine Jl ?_;refine QM ?_;exact⟨(by first|(simp_all;done)|(simp_all [Jj];omega)),Qa rfl (X2 trivial) ⟨rfl,rfl,rfl,trivial⟩⟩
  intro hst;refine Xy ?_;refine JI (⟨[(1,.ptr 0 0),(36,i64 l.k),(37,bl (l.k==1||l.k==2||l.k==3||l.k==9))],[(0,.var 26 (Q7 l))],1⟩) ?_ ?_
  ·refine QL ?_
   refine zq ?_ ?_<;>intro h16
   ·refine QM ?_;exact Qa rfl (Yw ⟨(KM (by simp_all)),rfl,trivial⟩) ⟨rfl,rfl,rfl,trivial⟩
   refine QL ?_
   refine zq ?_ ?_<;>intro h17
   ·refine QM ?_;exact Qa rfl (Yw ⟨(KM (by simp_all)),rfl,trivial⟩) ⟨rfl,rfl,rfl,trivial⟩
   refine QL ?_
   refine zq ?_ ?_<;>intro h18
   ·refine QM ?_;exact Qa rfl (Yw ⟨(KM (by simp_all)),rfl,trivial⟩) ⟨rfl,rfl,rfl,trivial⟩
   refine QI ?_;refine Qc ?_;exact Qa rfl (Yw ⟨(KM (by simp_all)),rfl,trivial⟩) ⟨rfl,rfl,rfl,trivial⟩
  refine zq ?_ ?_<;>intro h22
  ·have hk:l.k=1∨l.k=2∨l.k=3∨l.k=9:=by simpa [or_assoc] using h22
   refine Xy ?_
   refine zc 46 ?_ ?_<;>intro h26
   ·refine XL ?_;refine zQ ?_;exact Qr (by rw[Quw hst hk];simp_all)
   refine XL ?_;refine zQ ?_;exact Qr (by rw[Quw hst hk];simp_all)
  have hA:=h22
  refine JI (⟨[(1,.ptr 0 0),(36,i64 l.k),(52,bl (l.k==4||l.k==8))],[(0,.var 26 (Q7 l))],1⟩) ?_ ?_
  ·refine QL ?_
   refine zq ?_ ?_<;>intro h31
   ·refine QM ?_;exact Qa rfl (Yw ⟨(KM (by simp_all)),rfl,trivial⟩) ⟨rfl,rfl,rfl,trivial⟩
   refine QI ?_;refine Qc ?_;exact Qa rfl (Yw ⟨(KM (by simp_all)),rfl,trivial⟩) ⟨rfl,rfl,rfl,trivial⟩
  refine zq ?_ ?_<;>intro h35
  ·have hk:l.k=4∨l.k=8:=by simpa using h35
   refine Xy ?_;refine zQ ?_;exact Qr (by rw[QxR hst hk];simp)
  have hB:=h35
  refine QL ?_
  refine zq ?_ ?_<;>intro h40
  ·have hk:l.k=5:=by simpa using h40
   refine Xy ?_;refine zQ ?_;exact Qr (by rw[Qxu hst hk];simp)
  have h5:=h40
  refine QL ?_
  refine zq ?_ ?_<;>intro h45
  ·have hk:l.k=6:=by simpa using h45
   refine Xy ?_
   refine zc 71 ?_ ?_<;>intro h49
   ·refine J6 ?_;refine zQ ?_;exact Qr (by rw[QuD hst hk];simp_all)
   refine J6 ?_;refine zQ ?_;exact Qr (by rw[QuD hst hk];simp_all)
  have h6:=h45
  refine QL ?_
  refine zq ?_ ?_<;>intro h57
  ·have hk:l.k=7:=by simpa using h57
   refine Xy ?_
   refine zc 86 ?_ ?_<;>intro h61
   ·refine XL ?_;refine zQ ?_;exact Qr (by rw[Que hst hk];simp_all)
   refine XL ?_;refine zQ ?_;exact Qr (by rw[Que hst hk];simp_all)
  have h7:=h57
  refine QL ?_
  refine zq ?_ ?_<;>intro h66
  rotate_left
  ·have h10:=h66
   refine QK ?_;refine zQ ?_;exact Qr (Qv8 (by unfold Y6 Jg Jm;simp_all)).symm
  have hk:l.k=10:=by simpa using h66
  refine Xy ?_
  refine zc 98 ?_ ?_<;>intro h70
  ·refine XL ?_;refine zQ ?_;exact Qr (by rw[Qoy hst hk];simp_all)
  refine XL ?_;refine zQ ?_;exact Qr (by rw[Qoy hst hk];simp_all)
 refine XL ?_;refine QdV (⟨[(1,.ptr 0 0)],[(0,.var 26 (Q7 l))],1⟩) (Jj l=false) ?_ ?_
 ·refine QL ?_
  refine zc 14 ?_ ?_<;>intro h77
  rotate_left
  ·refine WT ?_
   refine zc 28 ?_ ?_<;>intro h93
   ·refine Xy ?_
    refine zq ?_ ?_<;>intro h97
    ·refine QI ?_;refine zQ ?_;exact Qr (Qbu (by first|(simp_all [Jj];done)|(simp_all [Jj];omega))).symm
    refine QM ?_;exact⟨(by first|(simp_all [Jj];done)|(simp_all [Jj];omega)),Qa rfl (X2 trivial) ⟨rfl,rfl,rfl,trivial⟩⟩
   refine Jl ?_;refine QM ?_;exact⟨(by first|(simp_all;done)|(simp_all [Jj];omega)),Qa rfl (X2 trivial) ⟨rfl,rfl,rfl,trivial⟩⟩
  refine QK ?_
  refine zc 18 ?_ ?_<;>intro h80
  ·refine QI ?_;refine uP (XT (m0 (n1 h77))) (XK rfl rfl h80 rfl) ?_;refine QkJ ?_;refine zQ ?_;exact Qr (Qbu (by first|(simp_all [Jj];done)|(simp_all [Jj];omega))).symm
  refine QI ?_;refine uP (XT (m0 (n1 h77))) (XG rfl rfl h80 rfl) ?_;refine QR ?_
  refine zc 24 ?_ ?_<;>intro h83
  ·refine QgC ?_;refine zQ ?_;exact Qr (Qbu (by first|(simp_all [Jj];done)|(simp_all [Jj];omega))).symm
  refine QK ?_
  refine zc 28 ?_ ?_<;>intro h86
  ·refine QK ?_;refine uP (X3 h83) (XK rfl rfl h86 rfl) ?_;refine QR ?_
   refine zq ?_ ?_<;>intro h90
   ·refine QI ?_;refine zQ ?_;exact Qr (Qbu (by first|(simp_all [Jj];done)|(simp_all [Jj];omega))).symm
   refine QM ?_;exact⟨(by first|(simp_all [Jj];done)|(simp_all [Jj];omega)),Qa rfl (X2 trivial) ⟨rfl,rfl,rfl,trivial⟩⟩
  refine QK ?_;refine uP (X3 h83) (XG rfl rfl h86 rfl) ?_;refine QI ?_;refine QM ?_;exact⟨(by first|(simp_all [Jj];done)|(simp_all [Jj];omega)),Qa rfl (X2 trivial) ⟨rfl,rfl,rfl,trivial⟩⟩
 intro hst;refine Xy ?_;refine JI (⟨[(1,.ptr 0 0),(36,i64 l.k),(37,bl (l.k==1||l.k==2||l.k==3||l.k==9))],[(0,.var 26 (Q7 l))],1⟩) ?_ ?_
 ·refine QL ?_
  refine zq ?_ ?_<;>intro h101
  ·refine QM ?_;exact Qa rfl (Yw ⟨(KM (by simp_all)),rfl,trivial⟩) ⟨rfl,rfl,rfl,trivial⟩
  refine QL ?_
  refine zq ?_ ?_<;>intro h102
  ·refine QM ?_;exact Qa rfl (Yw ⟨(KM (by simp_all)),rfl,trivial⟩) ⟨rfl,rfl,rfl,trivial⟩
  refine QL ?_
  refine zq ?_ ?_<;>intro h103
  ·refine QM ?_;exact Qa rfl (Yw ⟨(KM (by simp_all)),rfl,trivial⟩) ⟨rfl,rfl,rfl,trivial⟩
  refine QI ?_;refine Qc ?_;exact Qa rfl (Yw ⟨(KM (by simp_all)),rfl,trivial⟩) ⟨rfl,rfl,rfl,trivial⟩
 refine zq ?_ ?_<;>intro h107
 ·have hk:l.k=1∨l.k=2∨l.k=3∨l.k=9:=by simpa [or_assoc] using h107
  refine Xy ?_
  refine zc 46 ?_ ?_<;>intro h111
  ·refine XL ?_;refine zQ ?_;exact Qr (by rw[Quw hst hk];simp_all)
  refine XL ?_;refine zQ ?_;exact Qr (by rw[Quw hst hk];simp_all)
 have hA:=h107
 refine JI (⟨[(1,.ptr 0 0),(36,i64 l.k),(52,bl (l.k==4||l.k==8))],[(0,.var 26 (Q7 l))],1⟩) ?_ ?_
 ·refine QL ?_
  refine zq ?_ ?_<;>intro h116
  ·refine QM ?_;exact Qa rfl (Yw ⟨(KM (by simp_all)),rfl,trivial⟩) ⟨rfl,rfl,rfl,trivial⟩
  refine QI ?_;refine Qc ?_;exact Qa rfl (Yw ⟨(KM (by simp_all)),rfl,trivial⟩) ⟨rfl,rfl,rfl,trivial⟩
 refine zq ?_ ?_<;>intro h120
 ·have hk:l.k=4∨l.k=8:=by simpa using h120
  refine Xy ?_;refine zQ ?_;exact Qr (by rw[QxR hst hk];simp)
 have hB:=h120
 refine QL ?_
 refine zq ?_ ?_<;>intro h125
 ·have hk:l.k=5:=by simpa using h125
  refine Xy ?_;refine zQ ?_;exact Qr (by rw[Qxu hst hk];simp)
 have h5:=h125
 refine QL ?_
 refine zq ?_ ?_<;>intro h130
 ·have hk:l.k=6:=by simpa using h130
  refine Xy ?_
  refine zc 71 ?_ ?_<;>intro h134
  ·refine J6 ?_;refine zQ ?_;exact Qr (by rw[QuD hst hk];simp_all)
  refine J6 ?_;refine zQ ?_;exact Qr (by rw[QuD hst hk];simp_all)
 have h6:=h130
 refine QL ?_
 refine zq ?_ ?_<;>intro h142
 ·have hk:l.k=7:=by simpa using h142
  refine Xy ?_
  refine zc 86 ?_ ?_<;>intro h146
  ·refine XL ?_;refine zQ ?_;exact Qr (by rw[Que hst hk];simp_all)
  refine XL ?_;refine zQ ?_;exact Qr (by rw[Que hst hk];simp_all)
 have h7:=h142
 refine QL ?_
 refine zq ?_ ?_<;>intro h151
 rotate_left
 ·have h10:=h151
  refine QK ?_;refine zQ ?_;exact Qr (Qv8 (by unfold Y6 Jg Jm;simp_all)).symm
 have hk:l.k=10:=by simpa using h151
 refine Xy ?_
 refine zc 98 ?_ ?_<;>intro h155
 ·refine XL ?_;refine zQ ?_;exact Qr (by rw[Qoy hst hk];simp_all)
 refine XL ?_;refine zQ ?_;exact Qr (by rw[Qoy hst hk];simp_all)
end Go.Proofs.YtnkkokmmeplbgaaGreat
