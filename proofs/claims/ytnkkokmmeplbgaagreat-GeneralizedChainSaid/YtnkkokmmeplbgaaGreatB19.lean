/-
  Plain laws: the chain of rules that close a set of names, by
-/
import Derived.Test.YtnkkokmmeplbgaaGreatB11
import Derived.Test.YtnkkokmmeplbgaaGreatB10
import Derived.Test.YtnkkokmmeplbgaaGreatA5
namespace Go.Proofs.YtnkkokmmeplbgaaGreat
set_option maxRecDepth 100000
set_option maxHeartbeats 1000000
open Go.RowKit
def Qci (u:List Nm)(x:Nm):Nat:=u.idxOf x
theorem Qc3 {u:List Nm}{x:Nm}(h:x∈u):Qci u x<u.length:=List.idxOf_lt_length_iff.2 h
theorem Qnq {u:List Nm}{x:Nm}(h:x∈u):u[Qci u x]?=some x:=by
 rw[List.getElem?_eq_getElem (Qc3 h)];exact congrArg some (List.getElem_idxOf (Qc3 h))
theorem QuZ {u:List Nm}(hs:pw u){i:Nat}{x:Nm}(h:u[i]?=some x):Qci u x=i:=by
 obtain⟨h1,h2⟩:=List.getElem?_eq_some_iff.1 h
 have hn:u.Nodup:=hs.imp (fun h=>Qek h)
 subst h2
 exact hn.idxOf_getElem i h1
def Kg (u t:List Nm):List Bool:=u.map (JL t)
theorem Qeh {u t:List Nm}:(Kg u t).length=u.length:=by simp[Kg]
theorem Qpb {u t:List Nm}{x:Nm}(h:x∈u):(Kg u t)[Qci u x]?=some (JL t x):=by
 unfold Kg
 rw[List.getElem?_map,Qnq h];rfl
theorem QdM {t:List Nm}{x y:Nm}:JL (t++[x]) y=(JL t y||y==x):=by simp[JL]
theorem Qmz {u t:List Nm}(hs:pw u){x:Nm}(h:x∈u):(Kg u t).set (Qci u x) true=Kg u (t++[x]):=by
 apply List.ext_getElem?
 intro i
 unfold Kg
 rw[List.getElem?_set,List.getElem?_map]
 by_cases hi:Qci u x=i
 ·rw[if_pos hi]
  subst hi
  rw[if_pos (by simpa using Qc3 h),List.getElem?_map,Qnq h]
  simp[QdM]
 rw[if_neg hi,List.getElem?_map]
 cases hy:u[i]? with
 |none=>rfl
 |some y=>
  have:(y==x)=false:=by
   rw[beq_eq_false_iff_ne];intro e
   subst e
   exact hi (QuZ hs hy)
  simp[QdM,this]
def Qar (u:List Nm)(r:Ru):List Nat×Nat:=(r.i.map (Qci u),Qci u r.t)
def nv1 (n:Nat):List AV:=[i64 (n:Nat)]
def hrC (h:List Nat×Nat):List AV:=[.sl (h.1.map nv1) none,i64 (h.2:Nat)]
abbrev hrs (l:List (List Nat×Nat)):AV:=.sl (l.map hrC) none
def Qh3 (bits:List Bool)(i:Nat):Bool:=bits.getD i false
theorem Qk1 {bits:List Bool}{i:Nat}{b:Bool}(h:bits[i]?=some b):Qh3 bits i=b:=by
 unfold Qh3
 rw[List.getD_eq_getElem?_getD,h];rfl
def Qgg (bits:List Bool)(h:List Nat×Nat):Bool := !Qh3 bits h.2&&h.1.all (Qh3 bits)
def Yt (t:List Nm)(r:Ru):Bool:=Yu r.i t && !JL t r.t
theorem QsE {u t:List Nm}{r:Ru}(h1:∀x∈r.i,x∈u)(h2:r.t∈u):Qgg (Kg u t) (Qar u r)=Yt t r:=by
 unfold Qgg Yt Qar
 rw[Qk1 (Qpb h2),Bool.and_comm]
 congr 1
 rw[List.all_map]
 unfold Yu
 have:∀l:List Nm,(∀x∈l,x∈u)→l.all (Qh3 (Kg u t) ∘ Qci u)=l.all (JL t):=by
  intro l hl
  induction l with
  |nil=>rfl
  |cons x l ih=>
   rw[List.all_cons,List.all_cons,ih fun y hy=>hl y (List.mem_cons_of_mem _ hy)];rw[Function.comp,Qk1 (Qpb (hl x (List.mem_cons_self ..)))]
 exact this r.i h1
def QaD (q:Ru→Bool):List Ru→Nat→Option (Nat×Ru)
 |[],_=>none
 |r::l,k=>if q r then some (k,r) else QaD q l (k+1)
theorem Qid (q:Ru→Bool):∀(l:List Ru) (k:Nat),l.find? q=(QaD q l k).map (·.2)
 |[],_=>rfl
 |r::l,k=>by
  unfold QaD
  rw[List.find?_cons]
  cases h:q r
  ·simp[Qid q l (k+1)]
  simp
theorem QbH (q:Ru→Bool):∀(l:List Ru) (k:Nat) {j:Nat} {r:Ru},QaD q l k=some (j,r)→q r=true∧r∈l
 |[],_,_,_,h=>by cases h
 |r::l,k,j,r',h=>by
  unfold QaD at h
  split at h
  ·cases h;exact⟨‹_›,List.mem_cons_self ..⟩
  obtain⟨h1,h2⟩:=QbH q l (k+1) h;exact⟨h1,List.mem_cons_of_mem _ h2⟩
theorem Qs8 {q:Ru→Bool}{l:List Ru}{k:Nat}(h:QaD q l k=none):∀r∈l,q r=false:=fun r hr=>by
 have h1:=Qid q l k
 rw[h] at h1
 have:=List.find?_eq_none.1 h1 r hr
 simpa using this
def Qmr (u:List Nm)(o:Option (Nat×Ru)):Int×Int:=match o with
 |none=>(-1,0)
 |some (k,r)=>((k:Int),(Qci u r.t:Int))
def QiR (rs:List Ru)(t:List Nm):Nat:=rs.countP (fun r => !JL t r.t)
theorem QfS {rs:List Ru}{t:List Nm}:Qaf rs t=match QaD (Yt t) rs 0 with|some (_,r)=>t++[r.t]|none=>t:=by
 unfold Qaf
 rw[show(fun r:Ru=>Yu r.i t && !JL t r.t)=Yt t from rfl,Qid _ rs 0]
 cases h:QaD (Yt t) rs 0 with
 |none=>rfl
 |some p=>rfl
theorem Qc9 {rs:List Ru}{t:List Nm}{r:Ru}(hr:r∈rs)(hf:Yt t r=true):QiR rs (t++[r.t])<QiR rs t:=by
 have hnt:JL t r.t=false:=by
  unfold Yt at hf
  simp only[Bool.and_eq_true,Bool.not_eq_true'] at hf
  exact hf.2
 unfold QiR
 clear hf
 have le:∀l:List Ru,l.countP (fun r' => !JL (t++[r.t]) r'.t)≤l.countP (fun r' => !JL t r'.t):=fun l=>by
  refine List.countP_mono_left fun r' _ h=>?_
  rw[QdM] at h
  simp at h ⊢
  exact h.1
 induction rs with
 |nil=>cases hr
 |cons r' l ih=>
  rcases List.mem_cons.1 hr with e|hr
  ·subst e
   have hl:=le l
   rw[List.countP_cons,List.countP_cons];rw[if_neg (by rw[QdM];simp),if_pos (by rw[hnt];rfl)]
   omega
  have:=ih hr
  rw[List.countP_cons,List.countP_cons]
  have h2:(if (!JL (t++[r.t]) r'.t)=true then 1 else 0)≤if (!JL t r'.t)=true then 1 else 0:=by
   rw[QdM]
   cases JL t r'.t<;>cases(r'.t==r.t)<;>simp
  omega
theorem QaK {rs:List Ru}{t:List Nm}(h:Qaf rs t=t):∀n,YH rs n t=t
 |0=>rfl
 |n+1=>by rw[YH,h,QaK h n]
theorem QcZ {rs:List Ru}{t:List Nm}(h:QaD (Yt t) rs 0=none):Qaf rs t=t:=by rw[QfS,h]
theorem Qi4 {rs:List Ru}:∀(n:Nat) (t:List Nm),QiR rs t≤n→YH rs (n+1) t=YH rs n t
 |0,t,h=>by
  have h0:Qaf rs t=t:=by
   cases hf:QaD (Yt t) rs 0 with
   |none=>exact QcZ hf
   |some p=>
    obtain⟨h1,h2⟩:=QbH _ rs 0 (j:=p.1) (r:=p.2) hf
    have:=Qc9 h2 h1
    omega
  rw[QaK h0,QaK h0]
 |n+1,t,h=>by
  cases hf:QaD (Yt t) rs 0 with
  |none=>rw[QaK (QcZ hf),QaK (QcZ hf)]
  |some p=>
   obtain⟨h1,h2⟩:=QbH _ rs 0 (j:=p.1) (r:=p.2) hf
   have h3:Qaf rs t=t++[p.2.t]:=by rw[QfS,hf]
   have h4:=Qc9 h2 h1
   show YH rs (n+1) (Qaf rs t)=YH rs n (Qaf rs t)
   rw[h3];exact Qi4 (rs:=rs) n (t++[p.2.t]) (by omega)
theorem QkZ {rs:List Ru}{t:List Nm}:QiR rs t≤rs.length:=List.countP_le_length
theorem QuM {rs:List Ru}{t:List Nm}{k:Nat}{r:Ru}(hf:QaD (Yt t) rs 0=some (k,r)):YH rs rs.length (t++[r.t])=YH rs rs.length t:=by
 obtain⟨h1,h2⟩:=QbH _ rs 0 hf
 have h3:Qaf rs t=t++[r.t]:=by rw[QfS,hf]
 have h4:=Qc9 h2 h1
 have h5:=QkZ (rs:=rs) (t:=t)
 obtain⟨n,hn⟩:∃n,rs.length=n+1:=⟨rs.length-1,by omega⟩
 have h6:=Qi4 (rs:=rs) n (t++[r.t]) (by omega)
 rw[hn];rw[h6,YH,h3]
def Qc8:List Nm→List Bool→List Nm
 |x::u,b::l=>if b then x::Qc8 u l else Qc8 u l
 |_,_=>[]
theorem Qs4 (u t:List Nm):Qc8 u (Kg u t)=u.filter (JL t):=by
 induction u with
 |nil=>rfl
 |cons x u ih=>
  have h:Qc8 (x::u) (Kg (x::u) t)=if JL t x then x::Qc8 u (Kg u t) else Qc8 u (Kg u t):=rfl
  rw[h,ih,List.filter_cons]
theorem Qh9:∀ {u:List Nm} {l:List Bool} {k:Nat} {x:Nm} {b:Bool},u[k]?=some x→l[k]?=some b→Qc8 (u.take (k+1)) (l.take (k+1))=Qc8 (u.take k) (l.take k)++(if b then[x] else[])
 |y::u,c::l,0,x,b,h1,h2=>by
  simp at h1 h2;subst h1 h2
  cases c<;>simp[Qc8]
 |y::u,c::l,k+1,x,b,h1,h2=>by
  have:=Qh9 (u:=u) (l:=l) (k:=k) (by simpa using h1) (by simpa using h2)
  simp only[List.take_succ_cons,Qc8]
  cases c<;>simp only[Bool.false_eq_true,if_false,if_true]<;>rw[this]
  simp
 |[],_,_,_,_,h,_=>by simp at h
 |_::_,[],_,_,_,_,h=>by simp at h
theorem Qpi:∀(u:List Nm) (l:List Bool),(Qc8 u l).length≤u.length
 |x::u,b::l=>by
  have:=Qpi u l
  unfold Qc8
  split<;>simp<;>omega
 |[],_=>by simp[Qc8]
 |_::_,[]=>by simp[Qc8]
theorem Qvm {u:List Nm}{l:List Bool}{k:Nat}(h:u.length≤k)(h2:l.length=u.length):Qc8 (u.take k) (l.take k)=Qc8 u l:=by rw[List.take_of_length_le h,List.take_of_length_le (by omega)]
theorem QuI {n:Nat}(h:n≤1000000000):IntKind.u64.wrap (n:Int)=((n:Nat):Int):=by simp only[IntKind.wrap_u64];omega
theorem Qur {n:Nat}(h:n≤1000000000):IntKind.i64.wrap (((n:Nat):Int) / 2)=((n / 2:Nat):Int):=by rw[IntWalk.i64_in _ (by omega)];omega
theorem QvR {u:List Nm}(hs:pw u){i j:Nat}{x y:Nm}(h1:u[i]?=some x)(h2:u[j]?=some y)(h:i<j):Op.bytesLess x y=true:=by
 obtain⟨g1,rfl⟩:=List.getElem?_eq_some_iff.1 h1;obtain⟨g2,rfl⟩:=List.getElem?_eq_some_iff.1 h2;exact List.pairwise_iff_getElem.1 hs i j g1 g2 h
theorem QuL {u:List Nm}(hs:pw u){i j:Nat}{x y:Nm}(h1:u[i]?=some x)(h2:u[j]?=some y):Op.bytesLess x y=decide (i<j):=by
 rcases Nat.lt_trichotomy i j with h|h|h
 ·rw[QvR hs h1 h2 h,decide_eq_true h]
 ·subst h
  rw[h1] at h2
  cases h2
  rw[Qdd,decide_eq_false (Nat.lt_irrefl _)]
 ·rw[decide_eq_false (by omega)]
  cases hb:Op.bytesLess x y
  ·rfl
  ·have:=QbE hb (QvR hs h2 h1 h)
   rw[Qdd] at this;cases this
theorem Qst (x y:Nm):FC Tryz.prog 254 [sv x,sv y] (bl (Op.bytesLess x y)):=by
 refine Qg [4] Tryz.func254 rfl rfl 17 Tryz.ntmps254 (Nat.le_of_ble_eq_true rfl) ?_
 intro E hN;refine Xy ?_;refine zP (Qd (Qkd x) rfl rfl rfl) ?_;refine X5 ?_;refine zQ ?_
 rfl
theorem Qp1 (u:List Nm)(hu:u.length≤1000000)(hs:pw u)(x:Nm)(i:Nat)(hi:u[i]?=some x):FC Tryz.prog 241 [Jz u,sv x] (.tup [i64 (i:Nat),bl true]):=by
 refine Qg [4,5] Tryz.func241 rfl rfl 54 Tryz.ntmps241 (Nat.le_of_ble_eq_true rfl) ?_
 intro E hN
 have hiu:i<u.length:=(List.getElem?_eq_some_iff.1 hi).1
 refine QeV ?_;refine Qq (fun z:{q:Nat×Nat // q.1≤i∧i≤q.2∧q.2≤u.length}=>⟨[(0,Jz u),(1,sv x),(6,i64 u.length),(7,i64 (z.1.1:Nat)),(8,i64 (z.1.2:Nat))],[],0⟩) (fun z=>z.1.2-z.1.1) (⟨(0,u.length),by dsimp only;omega⟩) ?_ ?_
 ·exact Qa rfl (Yw ⟨(Y5 (by simp)),rfl,rfl,rfl,(Y5 (by simp)),rfl,trivial⟩) trivial
 rintro⟨⟨lo,hh⟩,h1,h2,h3⟩;dsimp only at h1 h2 h3 ⊢;refine Xy ?_
 refine zq ?_ ?_<;>intro h9
 rotate_left
 ·have hge:hh≤lo:=by simpa using h9
  obtain rfl:lo=i:=by omega
  refine XL ?_;refine zP (QD (b:=true) rfl rfl rfl (by simp;omega)) ?_;refine QI ?_;refine zP (Qh rfl rfl rfl lo rfl _ (Qt hi) rfl) ?_;refine QR ?_;refine zP (QD (b:=true) rfl rfl rfl (by simp)) ?_;refine WT ?_;refine zQ ?_
  rfl
 have hlt:lo<hh:=by simpa using h9
 obtain⟨y,hy⟩:=Qw (show(lo+hh) / 2<u.length by omega)
 have hl:=QuL hs hy hi
 refine Xy ?_;refine zP (Qo5 rfl rfl ((lo+hh:Nat):Int) (QuI (by omega))) ?_;refine zB ?_;refine zP (Qo5 rfl rfl (((lo+hh) / 2:Nat):Int) (Qur (by omega))) ?_;refine XL ?_;refine zP (Qh rfl rfl rfl ((lo+hh) / 2) rfl _ (Qt hy) rfl) ?_;refine QR ?_;refine zP (Qd (Qst _ x) rfl rfl rfl) ?_;refine zN ?_
 refine zq ?_ ?_<;>intro h16
 ·have h5:(lo+hh) / 2<i:=of_decide_eq_true (hl▸h16)
  refine QK ?_;refine Qc ?_;exact⟨⟨((lo+hh) / 2+1,hh),by dsimp only;omega⟩,Qa rfl (Ks (X2 trivial)) trivial,by dsimp only;omega⟩
 have h5:¬(lo+hh) / 2<i:=of_decide_eq_false (hl▸h16)
 refine QI ?_;refine Qc ?_;exact⟨⟨(lo,(lo+hh) / 2),by dsimp only;omega⟩,Qa rfl (Ks (X2 trivial)) trivial,by dsimp only;omega⟩
theorem Qr5 (u:List Nm)(hu:u.length≤1000000)(hs:pw u)(R:AV)(x:Nm)(hx:x∈u):FC Tryz.prog 231 [.el [Jz u,R],sv x] (i64 (Qci u x:Nat)):=by
 refine Qg [4] Tryz.func231 rfl rfl 19 Tryz.ntmps231 (Nat.le_of_ble_eq_true rfl) ?_
 intro E hN;refine X5 ?_;refine zP (Qd (Qp1 u hu hs x _ (Qnq hx)) rfl rfl rfl) ?_;refine JF ?_
 refine zq ?_ ?_<;>intro h7
 ·cases h7
 refine QL ?_;refine zQ ?_
 rfl
theorem QrK (n:Int):FC Tryz.prog 233 [i64 n] (bl true):=by
 refine Qg [2] Tryz.func233 rfl rfl 3 Tryz.ntmps233 (Nat.le_of_ble_eq_true rfl) ?_
 intro E hN;refine Xy ?_;refine zQ ?_
 rfl
theorem Qrz (h:List Nat×Nat)(bits:List Bool)(h2:h.2<bits.length)(h1:∀i∈h.1,i<bits.length):FC Tryz.prog 242 [.agg (hrC h),.sl (bits.map bv1) none] (bl (Qgg bits h)):=by
 refine Qg [4] Tryz.func242 rfl rfl 25 Tryz.ntmps242 (Nat.le_of_ble_eq_true rfl) ?_
 intro E hN;obtain⟨y,hy⟩:=Qw h2
 have hby:=Qk1 hy
 refine X5 ?_;refine zP (Qh rfl rfl rfl h.2 rfl _ (Qt hy) rfl) ?_;refine QR ?_
 refine zq ?_ ?_<;>intro h7
 ·refine QI ?_;refine zQ ?_;exact Qr (by simp_all [Qgg])
 refine XR ?_;refine Qq (fun x:{k:Nat // k≤(h.1).length∧(h.1.drop k).all (Qh3 bits)=h.1.all (Qh3 bits)}=>⟨[(1,.sl (bits.map bv1) none),(13,.sl (h.1.map nv1) none),(14,i64 h.1.length),(15,i64 (x.1:Nat))],[],0⟩) (fun x=>(h.1).length-x.1) (⟨0,Nat.zero_le _,by simp⟩) ?_ ?_
 ·exact Qa rfl (Yw ⟨(Y5 (by simp)),rfl,(X2 trivial)⟩) trivial
 rintro⟨k,hk,hg⟩;dsimp only;refine Jq 13 rfl (fun hl13=>?_);refine QL ?_
 refine zq ?_ ?_<;>intro h15
 rotate_left
 ·have hge:(h.1).length≤k:=by simpa using h15
  refine QK ?_;refine zQ ?_;exact Qr (by rw[Qgg,Jf hg hge];simp_all)
 have hlt:k<(h.1).length:=by simpa using h15
 obtain⟨x,hx⟩:=Qw hlt;obtain⟨z,hz⟩:=Qw (h1 x (List.mem_of_getElem? hx))
 have hbz:=Qk1 hz
 refine QL ?_;refine zP (Qh rfl rfl rfl k rfl _ (Qt hx) rfl) ?_;refine Xy ?_;refine zP (Qh rfl rfl rfl x rfl _ (Qt hz) rfl) ?_;refine QI ?_
 refine zq ?_ ?_<;>intro h19
 ·have h8:=h19
  refine QI ?_;refine zQ ?_;exact Qr (by rw[Qgg,Xe hg hx (by simp_all)];simp)
 have h8:=h19
 refine QK ?_;refine Qc ?_;exact⟨⟨k+1,hlt,XO hg hx (by rw[hbz];simpa using n0 h8)⟩,Qa rfl (YG ⟨JC,rfl,trivial⟩) trivial,by dsimp only;omega⟩
end Go.Proofs.YtnkkokmmeplbgaaGreat
