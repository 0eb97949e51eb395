/-
  Plain laws: names of any list, sorted, each once.
-/
import Derived.Test.YtnkkokmmeplbgaaGreatB23
import Derived.Test.YtnkkokmmeplbgaaGreatB16
import Derived.Test.YtnkkokmmeplbgaaGreatA5
import Derived.Test.YtnkkokmmeplbgaaGreatB11
import Derived.Test.YtnkkokmmeplbgaaGreatB10
import Derived.Test.YtnkkokmmeplbgaaGreatA7
namespace Go.Proofs.YtnkkokmmeplbgaaGreat
open Go.RowKit
theorem Qkg {α:Type}{p:α→Bool}:∀ {l:List α},l.Pairwise (fun x y=>p y=true→p x=true)→(∀x∈l.take (l.countP p),p x=true)∧∀x∈l.drop (l.countP p),p x=false
 |[],_=>by simp
 |x::r,h=>by
  obtain⟨h1,h2⟩:=List.pairwise_cons.1 h;obtain⟨i1,i2⟩:=Qkg h2
  cases hp:p x with
  |true=>
   rw[List.countP_cons_of_pos hp];refine⟨fun y hy=>?_,fun y hy=>i2 y (by simpa using hy)⟩
   rcases List.mem_cons.1 (by simpa using hy:y∈x::r.take (r.countP p)) with rfl|hy
   ·exact hp
   exact i1 y hy
  |false=>
   have hr:∀y∈r,p y=false:=fun y hy=>by
    cases hy2:p y
    ·rfl
    rw[h1 y hy hy2] at hp;cases hp
   have h0:(x::r).countP p=0:=by
    rw[List.countP_eq_zero];intro y hy
    rcases List.mem_cons.1 hy with rfl|hy
    ·simp[hp]
    simp[hr y hy]
   rw[h0];refine⟨by simp,fun y hy=>?_⟩
   rcases List.mem_cons.1 (by simpa using hy:y∈x::r) with rfl|hy
   ·exact hp
   exact hr y hy
structure QxU (l:Qv) (vs:List Qz) (k:Nat) (out:List Int):Prop where
 mem:∀y,y∈out↔0≤y∧y<k
 nd:out.Nodup
 pw:out.Pairwise (fun x y=>QE l (Kt vs x) (Kt vs y)=true)
theorem Qam {vs:List Qz}{k:Nat}{v:Qz}(h:vs[k]?=some v):Kt vs (k:Int)=v:=by
 unfold Kt
 simp[h]
section
variable {l:Qv}{vs:List Qz}(hO:Yv l)(hel:∀v∈vs,QA v l=true)
include hO hel
omit hO in
theorem Qkp {y:Int}{k:Nat}(h:0≤y∧y<k)(hk:k≤vs.length):QA (Kt vs y) l=true:=hel _ (List.mem_of_getElem? (QoF h hk))
theorem QaF:∀(k:Nat) (out:List Int),k≤vs.length→KE l vs k=some out→QxU l vs k out
 |0,out,_,h=>by cases h;exact⟨fun y=>⟨fun h=>by simp at h,fun h=>by omega⟩,List.nodup_nil,List.Pairwise.nil⟩
 |k+1,out,hk,h=>by
  obtain⟨v,hv⟩:=Qw (show k<vs.length by omega)
  cases hc:KE l vs k with
  |none=>have:=QdR hc 1;rw[h] at this;cases this
  |some o1=>
   rw[QdK hc hv,QaB] at h;obtain⟨m,nd,pw⟩:=QaF k o1 (by omega) hc
   split at h
   ·rename_i hall
    cases h
    have hve:=hel v (List.mem_of_getElem? hv)
    have ge:∀ {y},y∈o1→QA (Kt vs y) l=true:=fun hy=>Qkp hel ((m _).1 hy) (by omega)
    have hp:o1.Pairwise (fun x y=>Qdv l vs v y=true→Qdv l vs v x=true):=by
     refine List.Pairwise.imp_of_mem (fun {x y} hx hy hxy hl=>?_) pw;exact Xu l hO _ _ _ (ge hx) (ge hy) hve hxy hl
    obtain⟨t1,t2⟩:=Qkg hp
    have perm:(QnF o1 (o1.countP (Qdv l vs v)) (k:Int)).Perm ((k:Int)::o1):=by
     unfold QnF
     refine List.perm_middle.trans ?_;rw[List.take_append_drop]
    have hkn:(k:Int)∉o1:=fun hm=>by have:=((m _).1 hm).2;omega
    refine⟨fun y=>?_,perm.nodup_iff.2 (List.nodup_cons.2 ⟨hkn,nd⟩),?_⟩
    ·rw[Qty,m];omega
    unfold QnF
    have pw':(o1.take (o1.countP (Qdv l vs v))++o1.drop (o1.countP (Qdv l vs v))).Pairwise (fun x y=>QE l (Kt vs x) (Kt vs y)=true):=by rw[List.take_append_drop];exact pw
    obtain⟨q1,q2,q3⟩:=List.pairwise_append.1 pw';refine List.pairwise_append.2 ⟨q1,List.pairwise_cons.2 ⟨fun y hy=>?_,q2⟩,fun x hx y hy=>?_⟩
    ·rw[Qam hv]
     have h1:=t2 y hy
     have h2:=List.all_eq_true.1 hall y (List.mem_of_mem_drop hy)
     unfold Qpy at h2
     unfold Qdv at h1
     rw[h1,Bool.false_or] at h2;exact h2
    rcases List.mem_cons.1 hy with rfl|hy
    ·rw[Qam hv];exact t1 x hx
    exact q3 x hx y hy
   cases h
theorem Qgs (h:∀(i j:Nat) (x y:Qz),j<i→vs[i]?=some x→vs[j]?=some y→(QE l x y||QE l y x)=true):∀k,k≤vs.length→∃out,KE l vs k=some out
 |0,_=>⟨[],rfl⟩
 |k+1,hk=>by
  obtain⟨o1,h1⟩:=Qgs h k (by omega);obtain⟨v,hv⟩:=Qw (show k<vs.length by omega)
  have m:=(QaF hO hel k o1 (by omega) h1).mem
  suffices hall:o1.all (Qpy l vs v)=true from⟨_,by rw[QdK h1 hv,QaB,if_pos hall]⟩
  rw[List.all_eq_true];intro y hy
  have hy2:=(m y).1 hy
  have:=h k y.toNat v (Kt vs y) (by omega) hv (QoF hy2 (by omega))
  unfold Qpy
  rw[Bool.or_comm];exact this
end
theorem Qhl {l:Qv}{a b:Qz}(hc:QJ l=0)(ha:QA a l=true)(hb:QA b l=true):QiN l a b=(QE l a b||QE l b a):=Quc (Qgj hc (by simp[ha,hb])) rfl
section
variable {l:Qv}{vs:List Qz}
variable (hO:Yv l)(hel:∀v∈vs,QA v l=true)
include hO hel
end
end Go.Proofs.YtnkkokmmeplbgaaGreat
namespace Go.Proofs.YtnkkokmmeplbgaaGreat
open Go.RowKit
theorem Qnw {l:Qv}{vs:List Qz}(hc:QJ l=0)(h:∀v∈vs,QA v l=true):JP l vs=0:=Qgj hc (List.all_eq_true.2 h)
end Go.Proofs.YtnkkokmmeplbgaaGreat
namespace Go.Proofs.YtnkkokmmeplbgaaGreat
set_option maxRecDepth 100000
set_option maxHeartbeats 1000000
open Go.RowKit
def ofN:List Nm→List Nm
 |[]=>[]
 |x::r=>uni [x] (ofN r)
theorem Qfd:∀l,QF (ofN l)=true
 |[]=>rfl
 |_::r=>Qdb rfl (Qfd r)
theorem Qhg:∀ {l:List Nm} {z:Nm},z∈ofN l↔z∈l
 |[],z=>by simp[ofN]
 |x::r,z=>by rw[ofN,Qdq rfl (Qfd r),Qhg];simp
theorem Qup {l o:List Nm}(h:pw o)(hm:∀z,z∈o↔z∈l):o=ofN l:=Qfa (Qbq h) (Qfd l) fun z=>by rw[hm,Qhg]
def Qb1 (o:List Nm)(k:Nat)(x:Nm):List Nm:=o.take k++x::o.drop k
theorem X0 {o:List Nm}{k:Nat}{x:Nm}:(Qb1 o k x).length=o.length+1:=by unfold Qb1;simp;omega
theorem QtP {o:List Nm}{x:Nm}:Qb1 o o.length x=o++[x]:=by unfold Qb1;simp
theorem Qhb {o:List Nm}{k:Nat}{x:Nm}(h:k≤o.length):(Qb1 o k x)[k]?=some x:=by
 unfold Qb1
 rw[List.getElem?_append_right (by simp;omega)]
 simp[Nat.min_eq_left h]
theorem Qif {o:List Nm}{k:Nat}{x y:Nm}(hy:o[k]?=some y):(Qb1 o (k+1) x)[k]?=some y:=by
 have:=(List.getElem?_eq_some_iff.1 hy).1
 unfold Qb1
 rw[List.getElem?_append_left (by simp;omega),List.getElem?_take,if_pos (by omega),hy]
theorem Qtn {o:List Nm}{k:Nat}{x z:Nm}:z∈Qb1 o k x↔z=x∨z∈o:=by
 unfold Qb1
 rw[List.mem_append,List.mem_cons]
 constructor
 ·rintro(h|h|h)
  ·exact .inr (List.mem_of_mem_take h)
  ·exact .inl h
  exact .inr (List.mem_of_mem_drop h)
 rintro(h|h)
 ·exact .inr (.inl h)
 have:=(List.take_append_drop k o).symm▸h
 rcases List.mem_append.1 this with h|h
 ·exact .inl h
 exact .inr (.inr h)
theorem QjP {o:List Nm}{k:Nat}{x y:Nm}(hy:o[k]?=some y):((Qb1 o (k+1) x).set k x).set (k+1) y=Qb1 o k x:=by
 have hk:=(List.getElem?_eq_some_iff.1 hy).1
 apply List.ext_getElem?
 intro i;rw[List.getElem?_set,List.getElem?_set,List.length_set,X0]
 have hd:o.drop k=y::o.drop (k+1):=by rw[List.drop_eq_getElem_cons hk];rw[List.getElem?_eq_getElem hk] at hy;cases hy;rfl
 by_cases h1:k+1=i
 ·rw[if_pos h1,if_pos (by omega)]
  unfold Qb1
  rw[←h1,List.getElem?_append_right (by simp;omega)]
  simp[Nat.min_eq_left (Nat.le_of_lt hk),hd]
 rw[if_neg h1]
 by_cases h2:k=i
 ·rw[if_pos h2,if_pos (by omega),←h2,Qhb (by omega)]
 rw[if_neg h2]
 by_cases h3:i<k
 ·unfold Qb1
  rw[List.getElem?_append_left (by simp;omega),List.getElem?_append_left (by simp;omega),List.getElem?_take,List.getElem?_take,if_pos (by omega),if_pos h3]
 unfold Qb1
 rw[List.getElem?_append_right (by simp;omega),List.getElem?_append_right (by simp;omega)]
 simp only[List.length_take]
 obtain⟨e,rfl⟩:∃e,i=k+2+e:=⟨i-(k+2),by omega⟩
 rw[Nat.min_eq_left (by omega),Nat.min_eq_left (by omega),show k+2+e-(k+1)=e+1 by omega,show k+2+e-k=e+2 by omega,hd]
 simp
theorem QoN {o:List Nm}{k:Nat}{x:Nm}(h:pw o)(h1:∀z∈o.take k,Op.bytesLess z x=true)(h2:∀z∈o.drop k,Op.bytesLess x z=true):pw (Qb1 o k x):=by
 have h':pw (o.take k++o.drop k):=by rw[List.take_append_drop];exact h
 obtain⟨q1,q2,q3⟩:=List.pairwise_append.1 h'
 unfold Qb1
 refine List.pairwise_append.2 ⟨q1,List.pairwise_cons.2 ⟨h2,q2⟩,fun z hz w hw=>?_⟩
 rcases List.mem_cons.1 hw with rfl|hw
 ·exact h1 z hz
 exact q3 z hz w hw
theorem Qnb {o:List Nm}{k:Nat}{x y:Nm}(h:pw o)(hy:o[k]?=some y)(hl:Op.bytesLess y x=true):∀z∈o.take (k+1),Op.bytesLess z x=true:=fun z hz=>by
 obtain⟨j,hj⟩:=List.mem_iff_getElem?.1 hz
 have hjk:j<k+1:=by
  have:=(List.getElem?_eq_some_iff.1 hj).1
  simp at this;omega
 rw[List.getElem?_take,if_pos hjk] at hj
 by_cases e:j=k
 ·subst e;rw[hy] at hj;cases hj;exact hl
 obtain⟨g1,rfl⟩:=List.getElem?_eq_some_iff.1 hj;obtain⟨g2,rfl⟩:=List.getElem?_eq_some_iff.1 hy;exact QbE (List.pairwise_iff_getElem.1 h j k g1 g2 (by omega)) hl
theorem Qio {o:List Nm}{k:Nat}{x y:Nm}(hy:o[k]?=some y)(h1:∀z∈o.drop (k+1),Op.bytesLess x z=true)(hl:Op.bytesLess x y=true):∀z∈o.drop k,Op.bytesLess x z=true:=fun z hz=>by
 rw[XI hy] at hz
 rcases List.mem_cons.1 hz with rfl|hz
 ·exact hl
 exact h1 z hz
theorem W1 {s:Nm}(h:s.length<1∨16<s.length∨Qpg s=false):XU s=false:=by
 unfold XU
 rcases h with h|h|h
 ·have:s=[]:=List.eq_nil_of_length_eq_zero (by omega)
  subst this;rfl
 ·rw[decide_eq_false (by omega)];rfl
 rw[h];simp
theorem Qpk {s:Nm}(h:¬s.length<1):∃c:UInt8,s[0]?=some c∧Qpg s=(decide (97≤(c.toNat:Int))&&decide ((c.toNat:Int)≤122)):=by
 cases s with
 |nil=>simp at h
 |cons c r=>exact⟨c,rfl,rfl⟩
theorem QxP {x y:Nm}(h:(!(Op.bytesLess y x||y==x))=true):Op.bytesLess x y=true:=by
 simp only[Bool.not_eq_true',Bool.or_eq_false_iff,beq_eq_false_iff_ne] at h
 cases hb:Op.bytesLess x y
 ·exact absurd (QvV hb h.1).symm h.2
 rfl
theorem Qyc {x y:Nm}(h:(!(Op.bytesLess y x||y==x))=false)(hne:y≠x):Op.bytesLess y x=true:=by
 simp only[Bool.not_eq_false',Bool.or_eq_true,beq_iff_eq] at h
 exact h.resolve_right hne
theorem QeR (l:List Nm):∀e∈l.map sv1,e.length=1:=Qf8 (f:=sv1) (fun _=>rfl)
theorem Qge {l:List Nm}{i:Nat}{x:Nm}:(l.map sv1).set i [sv x]=(l.set i x).map sv1:=by rw[List.map_set];rfl
def Qls (a b:List Nm):List Nm:=a.filter fun x => !JL b x
theorem Qvq {a b:List Nm}:(((ofN (Qls a b)).length:Int)==0)=Yu a b:=by
 rw[Bool.eq_iff_iff,KS]
 simp only[beq_iff_eq]
 constructor
 ·intro h x hx
  cases hb:JL b x
  ·have:x∈ofN (Qls a b):=Qhg.2 (List.mem_filter.2 ⟨hx,by rw[hb];rfl⟩)
   have h0:ofN (Qls a b)=[]:=List.eq_nil_of_length_eq_zero (by omega)
   rw[h0] at this;cases this
  exact Y2.1 hb
 intro h
 have:ofN (Qls a b)=[]:=by
  cases ho:ofN (Qls a b) with
  |nil=>rfl
  |cons y r=>
   have hy:y∈Qls a b:=Qhg.1 (by rw[ho];simp)
   obtain⟨h1,h2⟩:=List.mem_filter.1 hy
   rw[Y2.2 (h y h1)] at h2;cases h2
 rw[this];rfl
theorem Qpx {l o:List Nm}{k j:Nat}{x:Nm}(h:pw (Qb1 o j x))(hm:∀z,z∈o↔z∈l.take k)(hx:l[k]?=some x)(hol:o.length≤k):pw (Qb1 o j x)∧(∀z,z∈Qb1 o j x↔z∈l.take (k+1))∧(Qb1 o j x).length≤k+1:=
 ⟨h,fun z=>by rw[Qtn,hm,List.take_add_one,hx];simp[or_comm],by rw[X0];omega⟩
theorem Qk3 {q:Nm→Bool}{l:List Nm}{k:Nat}{x:Nm}(hx:l[k]?=some x)(h:q x=true):(l.take (k+1)).filter q=(l.take k).filter q++[x]:=by
 rw[List.take_add_one,hx,List.filter_append];simp[h]
theorem Qpn {q:Nm→Bool}{l:List Nm}{k:Nat}{x:Nm}(hx:l[k]?=some x)(h:q x=false):(l.take (k+1)).filter q=(l.take k).filter q:=by
 rw[List.take_add_one,hx,List.filter_append];simp[h]
theorem Qws {q:Nm→Bool}{l:List Nm}{k:Nat}:((l.take k).filter q).length≤k:=Nat.le_trans (List.length_filter_le _ _) (by simp;omega)
theorem QnO (c:Int):FC Tryz.prog 210 [.p (.int .u8 c)] (bl (Jb c)):=by
 refine Qg [2] Tryz.func210 rfl rfl 21 Tryz.ntmps210 (Nat.le_of_ble_eq_true rfl) ?_
 intro E hN;refine J6 ?_
 refine zc 5 ?_ ?_<;>intro h2
 rotate_left
 ·refine Xy ?_
  refine zc 12 ?_ ?_<;>intro h8
  ·refine QL ?_
   refine zc 17 ?_ ?_<;>intro h9
   ·refine QK ?_;refine zQ ?_;exact Qr (by simp[Jb, *])
   refine QK ?_;refine zQ ?_;exact Qr (by simp[Jb, *])
  refine J6 ?_;refine zQ ?_;exact Qr (by simp[Jb, *])
 refine QK ?_
 refine zc 9 ?_ ?_<;>intro h3
 ·refine JF ?_;refine zQ ?_;exact Qr (by simp[Jb, *])
 refine QI ?_
 refine zc 12 ?_ ?_<;>intro h4
 ·refine QR ?_;refine uP (X3 h3) (XK rfl rfl h4 rfl) ?_;refine QR ?_
  refine zc 17 ?_ ?_<;>intro h5
  ·refine QK ?_;refine zQ ?_;exact Qr (by simp[Jb, *])
  refine QK ?_;refine zQ ?_;exact Qr (by simp[Jb, *])
 refine QR ?_;refine uP (X3 h3) (XG rfl rfl h4 rfl) ?_;refine XL ?_;refine zQ ?_;exact Qr (by simp[Jb, *])
theorem Qhx (s:Nm):FC Tryz.prog 179 [sv s] (bl (XU s)):=by
 refine Qg [2] Tryz.func179 rfl rfl 33 Tryz.ntmps179 (Nat.le_of_ble_eq_true rfl) ?_
 intro E hN;refine X5 ?_
 refine zc 7 ?_ ?_<;>intro h3
 ·have hv:=W1 (s:=s) (.inl (by have:=of_decide_eq_true h3;omega))
  refine QeV ?_;refine zQ ?_;exact Qr hv.symm
 obtain⟨c0,hc0,hh⟩:=Qpk (s:=s) (by have:=of_decide_eq_false h3;omega);refine QL ?_
 refine zc 12 ?_ ?_<;>intro h5
 ·have hv:=W1 (s:=s) (.inr (.inl (by have:=of_decide_eq_true h5;omega)))
  refine WT ?_;refine zQ ?_;exact Qr hv.symm
 have h16:s.length≤16:=by have:=of_decide_eq_false h5;omega
 refine Yy ?_;refine uP (X3 h5) (KG rfl rfl rfl 0 rfl _ hc0) ?_;refine QI ?_
 refine zc 17 ?_ ?_<;>intro h7
 ·have hv:=W1 (s:=s) (.inr (.inr (by rw[hh];have:=of_decide_eq_true h7;rw[decide_eq_false (by omega)];rfl)))
  refine J6 ?_;refine zQ ?_;exact Qr hv.symm
 have h97:97≤(c0.toNat:Int):=by have:=of_decide_eq_false h7;omega
 refine Yy ?_;refine uP (X3 h7) (KG rfl rfl rfl 0 rfl _ hc0) ?_;refine QI ?_
 refine zq ?_ ?_<;>intro h9
 ·have hv:=W1 (s:=s) (.inr (.inr (by rw[hh];have:=of_decide_eq_true h9;rw[decide_eq_false (show ¬(c0.toNat:Int)≤122 by omega),Bool.and_false])))
  refine QI ?_;refine zQ ?_;exact Qr hv.symm
 have hv:XU s=s.all (fun c=>Jb c.toNat):=by
  have:=of_decide_eq_false h9
  rw[XU,hh,decide_eq_true h16,decide_eq_true h97,decide_eq_true (by omega)];rfl
 refine Xy ?_;refine Qq (fun x:{k:Nat // k≤(s).length∧(s.drop k).all (fun c=>Jb c.toNat)=s.all (fun c=>Jb c.toNat)}=>⟨[(0,sv s),(3,i64 (x.1:Nat))],[],0⟩) (fun x=>(s).length-x.1) (⟨0,Nat.zero_le _,by simp⟩) ?_ ?_
 ·exact Qa rfl (Yw trivial) trivial
 rintro⟨k,hk,hg⟩;dsimp only;refine Jl ?_
 refine zq ?_ ?_<;>intro h13
 rotate_left
 ·have hge:(s).length≤k:=by simpa using h13
  refine QK ?_;refine zQ ?_;exact Qr (by rw[hv,Jf hg hge])
 have hlt:k<(s).length:=by simpa using h13
 obtain⟨x,hx⟩:=Qw hlt;refine Xy ?_;refine zP (KG rfl rfl rfl k rfl _ hx) ?_;refine zP (Qd (QnO _) rfl rfl rfl) ?_;refine QR ?_
 refine zq ?_ ?_<;>intro h15
 ·refine QI ?_;refine zQ ?_;exact Qr (by rw[hv,Xe hg hx (by first|(simp_all;done)|(simp_all [Jb];done)|(simp_all [Jb];omega))])
 refine QL ?_;refine Qc ?_;exact⟨⟨k+1,hlt,XO hg hx (by first|(simp_all;done)|(simp_all [Jb];done)|(simp_all [Jb];omega))⟩,Qa rfl (X2 ⟨JC,rfl,trivial⟩) trivial,by dsimp only;omega⟩
theorem Qn5 (l:List Nm):FC Tryz.prog 180 [Jz l] (bl (QF l)):=by
 refine Qg [2] Tryz.func180 rfl rfl 20 Tryz.ntmps180 (Nat.le_of_ble_eq_true rfl) ?_
 intro E hN;refine Jq 0 rfl (fun hl0=>?_);refine XR ?_;refine Qq (fun x:{k:Nat // 1≤k∧QF (l.drop (k-1))=QF l}=>⟨[(0,Jz l),(3,i64 (x.1:Nat))],[],0⟩) (fun x=>l.length-x.1) (⟨1,Nat.le_refl _,rfl⟩) ?_ ?_
 ·exact Qa rfl (Yw trivial) trivial
 rintro⟨k,hk,hg⟩;dsimp only;refine Jl ?_
 refine zq ?_ ?_<;>intro h5
 rotate_left
 ·have hge:l.length≤k:=by simpa using h5
  refine QK ?_;refine zQ ?_;exact Qr (Qfj hg hge).symm
 have hlt:k<l.length:=by simpa using h5
 obtain⟨x,hx⟩:=Qw hlt;obtain⟨y,hy⟩:=Qw (show k-1<l.length by omega)
 have hs:=Qet hk hg hy hx
 refine QK ?_;refine zD 9 ?_;refine QR ?_;refine zp (KV rfl rfl rfl (by omega)) ?_;refine zp (Qh rfl rfl rfl (k-1) (by omega) _ (Qt hy) rfl) ?_;refine QI ?_;refine zp (Qh rfl rfl rfl k rfl _ (Qt hx) rfl) ?_;refine QI ?_
 refine zq ?_ ?_<;>intro h11
 ·refine QI ?_;refine zQ ?_;exact Qr (by rw[hs];simp_all)
 have hn:QF (l.drop (k+1-1))=QF l:=by
  rw[hs,Nat.add_sub_cancel];simp_all
 refine QL ?_;refine Qc ?_;exact⟨⟨k+1,by omega,hn⟩,Qa rfl (X2 ⟨JC,rfl,trivial⟩) trivial,by dsimp only;omega⟩
theorem Qht (l:List Nm)(s:Nm):FC Tryz.prog 149 [Jz l,sv s] (bl (JL l s)):=by
 refine Qg [4] Tryz.func149 rfl rfl 18 Tryz.ntmps149 (Nat.le_of_ble_eq_true rfl) ?_
 intro E hN;refine Jq 0 rfl (fun hl0=>?_);refine XR ?_;refine Qq (fun x:{k:Nat // k≤(l).length∧(l.drop k).any (s == ·)=l.any (s == ·)}=>⟨[(0,Jz l),(1,sv s),(5,i64 (x.1:Nat))],[],0⟩) (fun x=>(l).length-x.1) (⟨0,Nat.zero_le _,by simp⟩) ?_ ?_
 ·exact Qa rfl (YG trivial) trivial
 rintro⟨k,hk,hg⟩;dsimp only;refine Jl ?_
 refine zq ?_ ?_<;>intro h7
 rotate_left
 ·have hge:(l).length≤k:=by simpa using h7
  refine QK ?_;refine zQ ?_;exact Qr (Qhd hg hge).symm
 have hlt:k<(l).length:=by simpa using h7
 obtain⟨x,hx⟩:=Qw hlt;refine Xy ?_;refine zP (Qh rfl rfl rfl k rfl _ (Qt hx) rfl) ?_;refine QK ?_
 refine zq ?_ ?_<;>intro h10
 ·have hxs:x=s:=by simpa using h10
  refine QI ?_;refine zQ ?_;exact Qr (Qhp hg hx (by rw[hxs];simp)).symm
 have hxs:x≠s:=by simpa using h10
 refine QL ?_;refine Qc ?_;exact⟨⟨k+1,hlt,QkK hg hx (beq_eq_false_iff_ne.2 fun e=>hxs e.symm)⟩,Qa rfl (Yw ⟨JC,rfl,trivial⟩) trivial,by dsimp only;omega⟩
theorem Qw2 (l:List Nm)(hl:l.length≤1000000):FC Tryz.prog 125 [Jz l] (Jz (ofN l)):=by
 refine Qg [2] Tryz.func125 rfl rfl 62 Tryz.ntmps125 (Nat.le_of_ble_eq_true rfl) ?_
 intro E hN;refine XL ?_;refine QcT hN rfl rfl rfl rfl rfl rfl ?_;refine Jl ?_;refine Qq (fun z:{q:Nat×List Nm // q.1≤l.length∧pw q.2∧(∀z,z∈q.2↔z∈l.take q.1)∧q.2.length≤q.1}=>⟨[(0,Jz l),(3,.own 0 z.1.2.length),(4,i64 (z.1.1:Nat))],[(0,.arr 9 1 (z.1.2.map sv1))],1⟩) (fun z=>l.length-z.1.1) (⟨(0,[]),Nat.zero_le _,List.Pairwise.nil,by simp,Nat.le_refl _⟩) ?_ ?_
 ·exact Qa rfl (YG trivial) ⟨rfl,rfl,(XM (fun _=>rfl) _),trivial⟩
 rintro⟨⟨k,o⟩,hk,ho,hm,hol⟩;dsimp only at hk ho hm hol ⊢;refine Jl ?_
 refine zq ?_ ?_<;>intro h7
 rotate_left
 ·have hge:l.length≤k:=by simpa using h7
  have hof:o=ofN l:=Qup ho (fun z=>by rw[hm,List.take_of_length_le hge])
  refine XL ?_;refine QC (JU 2 0 rfl rfl (by simp) (QN Qbf _) (Qds _) rfl) ?_;refine zR ?_;rw[hof]
 have hlt:k<(l).length:=by simpa using h7
 obtain⟨x,hx⟩:=Qw hlt;refine J6 ?_;refine zP (Qh rfl rfl rfl k rfl _ (Qt hx) rfl) ?_;refine zL ?_;refine zP (Qim (Qht o x) rfl rfl rfl (.cons (.own rfl (by simp) (QN Qbf _) (Qds _)) (.cons (.fz rfl) .nil))) ?_;refine zN ?_
 refine zq ?_ ?_<;>intro h10
 ·have hhas:JL o x=true:=h10
  refine QL ?_;refine Qc ?_;exact⟨⟨(k+1,o),hlt,ho,fun z=>by dsimp only;rw[hm,List.take_add_one,hx];simp only[List.mem_append,Option.toList_some,List.mem_singleton];exact⟨.inl,fun h=>h.elim id (fun e=>e▸(hm x).1 (Y2.1 hhas))⟩,by dsimp only;omega⟩,Qa rfl (X2 ⟨(cgO (by first|rfl|exact X0.symm)),rfl,JC,rfl,trivial⟩) ⟨rfl,rfl,(XM (fun _=>rfl) _),trivial⟩,by dsimp only;omega⟩
 have hno:x∉o:=fun hm2=>by rw[Y2.2 hm2] at h10;cases h10
 refine XL ?_;refine zP (Qh rfl rfl rfl k rfl _ (Qt hx) rfl) ?_;refine zL ?_;refine zP (Q0 rfl rfl rfl rfl (by exact rfl) (by decide) (by decide)) ?_;refine XA hN rfl rfl rfl (by simp) rfl rfl rfl (by simp[Xi];omega) rfl rfl rfl rfl ?_;refine QL ?_;refine zP ((YD rfl rfl rfl (by simp))) ?_;refine zP (KV rfl rfl rfl (by simp[Xi];omega)) ?_;refine QI ?_
 refine Qq (fun z:{j:Nat // j≤o.length∧∀z∈o.drop j,Op.bytesLess x z=true}=>⟨[(0,Jz l),(3,.own 0 (o.length+1)),(4,i64 (k:Nat)),(5,i64 (z.1:Nat))],[(0,.arr 9 1 ((Qb1 o z.1 x).map sv1))],1⟩) (fun z=>z.1) (⟨o.length,Nat.le_refl _,by simp⟩) ?_ ?_
 ·exact Qa rfl (X2 ⟨(cgO (by simp[Xi])),rfl,rfl,rfl,(Y5 (by simp[Xi])),rfl,trivial⟩) ⟨(cgA (by rw[QtP];simp[Xi,sv1])),rfl,(XM (fun _=>rfl) _),trivial⟩
 rintro⟨j,hj,hab⟩;dsimp only;refine QR ?_;refine zD 13 ?_;refine QI ?_
 refine zd 31 ?_ ?_<;>intro h22
 rotate_left
 ·have hj0:j=0:=by have:=of_decide_eq_false h22;omega
  have hpw:=Qpx (QoN (k:=j) ho (by rw[hj0];simp) hab) hm hx hol
  refine Qfe ?_;refine Qc ?_;exact⟨⟨(k+1,_),hlt,hpw⟩,Qa rfl (X2 ⟨(cgO (by first|rfl|exact X0.symm)),rfl,JC,rfl,trivial⟩) ⟨rfl,rfl,(XM (fun _=>rfl) _),trivial⟩,by dsimp only;omega⟩
 obtain⟨j,rfl⟩:∃j',j=j'+1:=⟨j-1,by have:=of_decide_eq_true h22;omega⟩
 obtain⟨y,hy⟩:=Qw (show j<o.length by omega);refine QR ?_;refine vP (XT h22) (KV rfl rfl rfl (by omega)) ?_;refine vP (XT h22) (QU rfl rfl rfl rfl (by simp[X0]) j (by omega) (by omega)) ?_;refine vP (XT h22) (XJ rfl rfl rfl (by simp[X0]) (QeR _) j rfl (Qt (Qif hy)) (fun _=>rfl) rfl) ?_;refine QR ?_;refine vP (XT h22) (QU rfl rfl rfl rfl (by simp[X0]) (j+1) rfl (by omega)) ?_;refine vP (XT h22) (XJ rfl rfl rfl (by simp[X0]) (QeR _) (j+1) rfl (Qt (Qhb hj)) (fun _=>rfl) rfl) ?_;refine QI ?_
 refine zq ?_ ?_<;>intro h28
 rotate_left
 ·have hpw:=Qpx (QoN ho (Qnb ho hy (Qyc h28 (fun e=>hno (e▸List.mem_of_getElem? hy)))) hab) hm hx hol
  refine QL ?_;refine Qc ?_;exact⟨⟨(k+1,_),hlt,hpw⟩,Qa rfl (X2 ⟨(cgO (by first|rfl|exact X0.symm)),rfl,JC,rfl,trivial⟩) ⟨rfl,rfl,(XM (fun _=>rfl) _),trivial⟩,by dsimp only;omega⟩
 have hgt:=QxP h28
 refine QI ?_;refine QsA 18 rfl (by kernel_rfl) (by kernel_rfl) (fun _ _ h=>h) ?_;refine WD 0 rfl (by kernel_rfl) (by kernel_rfl) rfl (Y4 hN rfl rfl rfl rfl rfl rfl) ?_;refine WD 1 rfl (by kernel_rfl) (by kernel_rfl) rfl (Y4 hN rfl rfl rfl rfl rfl rfl) ?_;refine WD 2 rfl (by kernel_rfl) (by kernel_rfl) rfl (QpH hN rfl rfl rfl (by omega) rfl rfl rfl rfl) ?_;refine WD 3 rfl (by kernel_rfl) (by kernel_rfl) rfl (Y4 hN rfl rfl rfl rfl rfl rfl) ?_;refine WD 4 rfl (by kernel_rfl) (by kernel_rfl) rfl (Y4 hN rfl rfl rfl rfl rfl rfl) ?_
 refine WD 5 rfl (by kernel_rfl) (by kernel_rfl) rfl (Y4 hN rfl rfl rfl rfl rfl rfl) ?_;refine WD 6 rfl (by kernel_rfl) (by kernel_rfl) rfl (Y4 hN rfl rfl rfl rfl rfl rfl) ?_;refine WD 7 rfl (by kernel_rfl) (by kernel_rfl) rfl (QoV hN rfl rfl rfl rfl (by simp[X0]) (j+1) rfl (by omega) rfl rfl rfl rfl) ?_;refine WD 9 rfl (by kernel_rfl) (by kernel_rfl) rfl (Y4 hN rfl rfl rfl rfl rfl rfl) ?_;refine WD 10 rfl (by kernel_rfl) (by kernel_rfl) rfl (Y4 hN rfl rfl rfl rfl rfl rfl) ?_
 refine WD 11 rfl (by kernel_rfl) (by kernel_rfl) rfl (QpH hN rfl rfl rfl (by omega) rfl rfl rfl rfl) ?_;refine WD 12 rfl (by kernel_rfl) (by kernel_rfl) rfl (QoV hN rfl rfl rfl rfl (by simp[X0]) j (by omega) (by omega) rfl rfl rfl rfl) ?_;refine QbR [8,13] (by kernel_rfl) rfl ⟨.inl (QG rfl ?_),.inl (QG rfl ?_),trivial⟩
 ·refine zp (XJ rfl rfl rfl (by simp[X0]) (QeR _) (j+1) rfl (Qt (Qhb hj)) (fun _=>rfl) rfl) ?_;change AT _ _ _ _ _ _ _ _;refine QbR [13] (by kernel_rfl) rfl ⟨.inl (QG rfl ?_),trivial⟩;refine zp (XJ rfl rfl rfl (by simp[X0]) (QeR _) j rfl (Qt (Qif hy)) (fun _=>rfl) rfl) ?_;change AT _ _ _ _ _ _ _ _;refine QbR [14] (by kernel_rfl) rfl ⟨.inl (QG rfl ?_),trivial⟩;refine zp (QU rfl rfl rfl rfl (by simp[X0]) j (by omega) (by omega)) ?_;change AT _ _ _ _ _ _ _ _
  refine QbR [15] (by kernel_rfl) rfl ⟨.inr (Q5 rfl rfl rfl rfl (by simp[X0]) j rfl (by simp[X0];omega) rfl rfl rfl rfl (QeR _) rfl rfl rfl rfl ?_),trivial⟩;change AT _ _ _ _ _ _ _ _;refine QbR [16] (by kernel_rfl) rfl ⟨.inl (QG rfl ?_),trivial⟩;refine zp (QU rfl rfl rfl rfl (by simp[X0]) (j+1) rfl (by omega)) ?_;change AT _ _ _ _ _ _ _ _;refine QbR [17] (by kernel_rfl) rfl ⟨.inr (Q5 rfl rfl rfl rfl (by simp[X0]) (j+1) rfl (by simp[X0];omega) rfl rfl rfl rfl (by rw[Qge];exact QeR _) rfl rfl rfl rfl ?_),trivial⟩
  change AT _ _ _ _ _ _ _ _;refine QoE (by kernel_rfl) ?_;change Y1 _ _ _ _  _;refine QR ?_;refine zP (KV rfl rfl rfl (by omega)) ?_;refine zS ?_;refine Qc ?_;exact⟨⟨j,by omega,Qio hy hab hgt⟩,Qa rfl (X2 ⟨(cgO rfl),rfl,rfl,rfl,JC,rfl,trivial⟩) ⟨(cgA (by rw[Qge,Qge,QjP hy])),rfl,(XM (fun _=>rfl) _),trivial⟩,by dsimp only;omega⟩
 refine zp (XJ rfl rfl rfl (by simp[X0]) (QeR _) j rfl (Qt (Qif hy)) (fun _=>rfl) rfl) ?_;change AT _ _ _ _ _ _ _ _;refine QbR [8] (by kernel_rfl) rfl ⟨.inl (QG rfl ?_),trivial⟩;refine zp (XJ rfl rfl rfl (by simp[X0]) (QeR _) (j+1) rfl (Qt (Qhb hj)) (fun _=>rfl) rfl) ?_;change AT _ _ _ _ _ _ _ _;refine QbR [14] (by kernel_rfl) rfl ⟨.inl (QG rfl ?_),trivial⟩;refine zp (QU rfl rfl rfl rfl (by simp[X0]) j (by omega) (by omega)) ?_;change AT _ _ _ _ _ _ _ _
 refine QbR [15] (by kernel_rfl) rfl ⟨.inr (Q5 rfl rfl rfl rfl (by simp[X0]) j rfl (by simp[X0];omega) rfl rfl rfl rfl (QeR _) rfl rfl rfl rfl ?_),trivial⟩;change AT _ _ _ _ _ _ _ _;refine QbR [16] (by kernel_rfl) rfl ⟨.inl (QG rfl ?_),trivial⟩;refine zp (QU rfl rfl rfl rfl (by simp[X0]) (j+1) rfl (by omega)) ?_;change AT _ _ _ _ _ _ _ _;refine QbR [17] (by kernel_rfl) rfl ⟨.inr (Q5 rfl rfl rfl rfl (by simp[X0]) (j+1) rfl (by simp[X0];omega) rfl rfl rfl rfl (by rw[Qge];exact QeR _) rfl rfl rfl rfl ?_),trivial⟩
 change AT _ _ _ _ _ _ _ _;refine QoE (by kernel_rfl) ?_;change Y1 _ _ _ _  _;refine QR ?_;refine zP (KV rfl rfl rfl (by omega)) ?_;refine zS ?_;refine Qc ?_;exact⟨⟨j,by omega,Qio hy hab hgt⟩,Qa rfl (X2 ⟨(cgO rfl),rfl,rfl,rfl,JC,rfl,trivial⟩) ⟨(cgA (by rw[Qge,Qge,QjP hy])),rfl,(XM (fun _=>rfl) _),trivial⟩,by dsimp only;omega⟩
theorem QpZ (a b:List Nm)(ha:a.length≤1000000):FC Tryz.prog 169 [Jz a,Jz b] (Jz (ofN (Qls a b))):=by
 refine Qg [4] Tryz.func169 rfl rfl 30 Tryz.ntmps169 (Nat.le_of_ble_eq_true rfl) ?_
 intro E hN;refine XL ?_;refine QcT hN rfl rfl rfl rfl rfl rfl ?_;refine Jl ?_;refine Qq (fun x:{k:Nat // k≤(a).length∧True}=>⟨[(0,Jz a),(1,Jz b),(5,.own 0 ((a.take x.1).filter fun x => !JL b x).length),(6,i64 (x.1:Nat))],[(0,.arr 9 1 (((a.take x.1).filter fun x => !JL b x).map sv1))],1⟩) (fun x=>(a).length-x.1) (⟨0,Nat.zero_le _,by simp⟩) ?_ ?_
 ·exact Qa rfl (Ks trivial) ⟨rfl,rfl,(XM (fun _=>rfl) _),trivial⟩
 rintro⟨k,hk,hg⟩;dsimp only;refine Jl ?_
 refine zq ?_ ?_<;>intro h9
 rotate_left
 ·have hge:a.length≤k:=by simpa using h9
  rw[List.take_of_length_le hge];refine QR ?_;refine QC (JU 5 0 rfl rfl (by simp) (QN Qbf _) (Qds _) rfl) ?_;refine QR ?_;refine zP (Qd (Qw2 (Qls a b) (Nat.le_trans (List.length_filter_le _ _) ha)) rfl rfl rfl) ?_;refine zS ?_;refine zQ ?_
  rfl
 have hlt:k<(a).length:=by simpa using h9
 obtain⟨x,hx⟩:=Qw hlt;refine Jl ?_;refine zP (Qh rfl rfl rfl k rfl _ (Qt hx) rfl) ?_;refine zL ?_;refine zP (Qd (Qht b x) rfl rfl rfl) ?_;refine QR ?_
 refine zq ?_ ?_<;>intro h12
 ·have hq:(!JL b x)=true:=h12
  refine QK ?_;refine zP (Qh rfl rfl rfl k rfl _ (Qt hx) rfl) ?_;refine zL ?_;refine zP (Q0 rfl rfl rfl rfl (by exact rfl) (by decide) (by decide)) ?_;refine XA hN rfl rfl rfl (by simp) rfl rfl rfl (by have:=Qws (q:=fun x => !JL b x) (l:=a) (k:=k);simp[Xi] at this ⊢;omega) rfl rfl rfl rfl ?_;refine XL ?_;refine Qc ?_
  exact⟨⟨k+1,hlt,trivial⟩,Qa rfl (Yw ⟨(cgO (by first|(rw[Qk3 hx hq];simp[Xi];done)|rw[Qpn hx hq])),rfl,JC,rfl,trivial⟩) ⟨(cgA (by first|(rw[Qk3 hx hq];simp[Xi,sv1];done)|rw[Qpn hx hq])),rfl,(XM (fun _=>rfl) _),trivial⟩,by dsimp only;omega⟩
 have hq:(!JL b x)=false:=h12
 refine QL ?_;refine Qc ?_;exact⟨⟨k+1,hlt,trivial⟩,Qa rfl (Yw ⟨(cgO (by first|(rw[Qk3 hx hq];simp[Xi];done)|rw[Qpn hx hq])),rfl,JC,rfl,trivial⟩) ⟨(cgA (by first|(rw[Qk3 hx hq];simp[Xi,sv1];done)|rw[Qpn hx hq])),rfl,(XM (fun _=>rfl) _),trivial⟩,by dsimp only;omega⟩
theorem Qfi (a b:List Nm)(ha:a.length≤1000000):FC Tryz.prog 135 [Jz a,Jz b] (bl (Yu a b)):=by
 refine Qg [4] Tryz.func135 rfl rfl 10 Tryz.ntmps135 (Nat.le_of_ble_eq_true rfl) ?_
 intro E hN;refine Jl ?_;refine zP (Qd (QpZ a b ha) rfl rfl rfl) ?_;refine QI ?_;refine zQ ?_;exact Qr (by rw[List.length_map];exact Qvq)
end Go.Proofs.YtnkkokmmeplbgaaGreat
