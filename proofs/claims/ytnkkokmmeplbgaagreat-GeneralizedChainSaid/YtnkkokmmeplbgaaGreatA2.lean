/-
  A region that draws its order: operations that compute, read
-/
import Derived.Test.YtnkkokmmeplbgaaGreatA1
import Derived.StillTail
import Derived.Laws.AppendOwn
import Derived.Maps.AppendAt
namespace Go.Proofs.YtnkkokmmeplbgaaGreat
open Go.RowKit
def Eqv (s s':St):Prop:=(∀i,s.get i=s'.get i)∧(∀o,Qb s.H o=Qb s'.H o)∧s.nx=s'.nx
theorem Eqv.refl (s:St):Eqv s s:=⟨fun _=>rfl,fun _=>rfl,rfl⟩
theorem Eqv.symm {s s':St}(h:Eqv s s'):Eqv s' s:=⟨fun i=>(h.1 i).symm,fun o=>(h.2.1 o).symm,h.2.2.symm⟩
theorem Eqv.trans {a b c:St}(h:Eqv a b)(k:Eqv b c):Eqv a c:=⟨fun i=>(h.1 i).trans (k.1 i),fun o=>(h.2.1 o).trans (k.2.1 o),h.2.2.trans k.2.2⟩
theorem Eqv.keep {s s':St}(e:Eqv s s'):QcL s.H s'.H:=fun q _ h _=>(e.2.1 q).symm.trans h
theorem Jk.congr {E:X7}{c:Cx}{a:Act}{s s':St}(h:Jk E c a s)(e:Eqv s s'):Jk E c a s':=by
 obtain⟨e1,e2,e3⟩:=e;exact { h with tmps:=fun i=>by rw[←e1];exact h.tmps i,live:=fun o ob ho=>h.live o ob ((e2 o).trans ho),dead:=fun o ho=>h.dead o ((e2 o).trans ho),ids:=by rw[←e3];exact h.ids,nxB:=by rw[←e3];exact h.nxB }
theorem Eqv.ev {s s':St}(e:Eqv s s')(x:Operand):s.ev x=s'.ev x:=by
 cases x with
 |tmp t=>exact e.1 t
 |_=>rfl
theorem Eqv.wanted {s s':St}(e:Eqv s s')(ops:Array Oper)(o:Oper):Qo ops s o=Qo ops s' o:=by
 unfold Qo
 split
 ·rfl
 split
 ·rfl
 rw[e.1]
theorem PY.congr {P:Program}{E:X7}{o:Oper}{s s':St}{x:AV}(h:PY P E o s x)(e:Eqv s s'):PY P E o s' x:=
 fun st h1 h2=>h st (fun y hy=>(h1 y hy).trans (e.ev y).symm) (e.keep.trans h2)
theorem Qdt (s:St)(d:Option Nat)(x:AV)(i:Nat):(s.put d x).get i=if d=some i then x else s.get i:=by
 cases d with
 |none=>simp[St.put]
 |some d=>
  simp only[St.put,St.get,Qn]
  by_cases h:i=d
  ·subst h;simp
  rw[if_neg h,if_neg (by simpa using fun e=>h e.symm)]
theorem QdA (s:St)(d:Option Nat)(x:AV):(s.put d x).H=s.H∧(s.put d x).nx=s.nx:=by cases d<;>exact⟨rfl,rfl⟩
theorem Eqv.put {s s':St}(e:Eqv s s')(d:Option Nat)(x:AV):Eqv (s.put d x) (s'.put d x):=
 ⟨fun i=>by rw[Qdt,Qdt,e.1],fun o=>by rw[(QdA _ _ _).1,(QdA _ _ _).1,e.2.1],by rw[(QdA _ _ _).2,(QdA _ _ _).2,e.2.2]⟩
theorem Qmi (s:St){d d':Option Nat}(x y:AV)(h:∀k,d=some k→d'≠some k):Eqv ((s.put d x).put d' y) ((s.put d' y).put d x):=by
 refine⟨fun i=>?_,fun o=>by simp only[(QdA _ _ _).1],by simp only[(QdA _ _ _).2]⟩
 simp only[Qdt]
 by_cases h1:d'=some i
 ·rw[if_pos h1]
  by_cases h2:d=some i
  ·exact absurd h1 (h i h2)
  rw[if_neg h2,if_pos h1]
 ·rw[if_neg h1]
  by_cases h2:d=some i
  ·rw[if_pos h2,if_pos h2]
  ·rw[if_neg h2,if_neg h2,if_neg h1]
section
variable {P:Program}{E:X7}{ops:Array Oper}{md:Region.Mode}
def Qi5 (E:X7)(o:Oper):Prop:=∀d,o.dst=some d→d<E.N
def YA (P:Program)(E:X7)(ops:Array Oper)(o:Oper)(x:AV)(s:St):Prop:=
 Qi5 E o∧(Qo ops s o=some true∧PY P E o s x∨Qo ops s o=some false∧x=.p undef)
def aOp (P:Program)(E:X7)(ops:Array Oper)(i:Nat)(K:St→Prop)(s:St):Prop:=
 match ops[i]? with
 |none=>K s
 |some o=>∃x,YA P E ops o x s∧K (s.put o.dst x)
def JE (P:Program)(E:X7)(ops:Array Oper)(K:St→Prop):List Oper→St→Prop
 |[],s=>K s
 |o::rest,s=>∃x,YA P E ops o x s∧JE P E ops K rest (s.put o.dst x)
theorem YA.congr {o:Oper}{x:AV}{s s':St}(h:YA P E ops o x s)(e:Eqv s s'):YA P E ops o x s':=by
 obtain⟨h1,h2⟩:=h;refine⟨h1,?_⟩;rw[←e.wanted ops o]
 rcases h2 with ⟨h2,h3⟩|h2
 ·exact .inl ⟨h2,h3.congr e⟩
 ·exact .inr h2
def Yj (K:St→Prop):Prop:=∀s s',Eqv s s'→K s→K s'
theorem QfE {i:Nat}{K K':St→Prop}{s:St}(h:∀s,K s→K' s)(hh:aOp P E ops i K s):aOp P E ops i K' s:=by
 unfold aOp at *
 split
 ·rename_i ho;simp only[ho] at hh;exact h _ hh
 rename_i o ho
 simp only[ho] at hh
 obtain⟨x,h1,h2⟩:=hh;exact⟨x,h1,h _ h2⟩
theorem QgE {i:Nat}{K:St→Prop}(hK:Yj K){s s':St}(e:Eqv s s')(hh:aOp P E ops i K s):aOp P E ops i K s':=by
 unfold aOp at *
 split
 ·rename_i ho;simp only[ho] at hh;exact hK _ _ e hh
 ·rename_i o ho
  simp only[ho] at hh
  obtain⟨x,h1,h2⟩:=hh;exact⟨x,h1.congr e,hK _ _ (e.put _ _) h2⟩
theorem QkO (s:St)(d:Option Nat)(u:AV)(y:Operand)(h:∀k,d=some k→y ≠ .tmp k):(s.put d u).ev y=s.ev y:=by
 cases y with
 |tmp t=>
  show(s.put d u).get t=s.get t
  rw[Qdt,if_neg (fun e=>h t e rfl)]
 |_=>rfl
theorem YA.put {o oj:Oper}{x:AV}{s:St}(h:YA P E ops o x s)(u:AV)(h3:∀d,oj.dst=some d→d∉o.looksAt ops):YA P E ops o x (s.put oj.dst u):=by
 obtain⟨h1,h2⟩:=h
 have hw:Qo ops (s.put oj.dst u) o=Qo ops s o:=by
  unfold Qo
  cases hg:o.guard with
  |none=>rfl
  |some jw=>
   obtain⟨j,want⟩:=jw
   simp only
   cases hd:(ops[j]?).bind (·.dst) with
   |none=>rfl
   |some d=>
    have hne:oj.dst≠some d:=fun e=>h3 d e (by
     unfold Oper.looksAt
     rw[hg]
     exact List.mem_append_right _ (by simp[hd]))
    simp only[Qdt,if_neg hne]
 refine⟨h1,?_⟩;rw[hw]
 rcases h2 with ⟨h2,h4⟩|h2
 ·refine .inl ⟨h2,fun st h5 h6=>h4 st (fun y hy=>(h5 y hy).trans (QkO s oj.dst u y fun k hk e=>h3 k hk ?_)) (by rw[(QdA _ _ _).1] at h6;exact h6)⟩
  subst e
  exact List.mem_append_left _ (List.mem_filterMap.2 ⟨.tmp k,by simpa using hy,rfl⟩)
 ·exact .inr h2
theorem Qhn {j:Nat}{oi oj:Oper}{x:AV}(hj:ops[j]?=some oj)(hap:oi.apart ops oj=true){K:St→Prop}(hK:Yj K){s:St}
  (hy:YA P E ops oi x s) (h:aOp P E ops j K (s.put oi.dst x)):aOp P E ops j (fun s'=>YA P E ops oi x s'∧K (s'.put oi.dst x)) s:=by
 obtain⟨h1,h2,h3⟩:=Oper.apart_spec hap
 unfold aOp at *
 simp only[hj] at *
 obtain⟨y,h4,h5⟩:=h
 have h6:YA P E ops oj y s:=by
  have:=h4
  obtain⟨g1,g2⟩:=this
  have hw:Qo ops (s.put oi.dst x) oj=Qo ops s oj:=by
   unfold Qo
   cases hg:oj.guard with
   |none=>rfl
   |some jw=>
    obtain⟨q,want⟩:=jw
    simp only
    cases hd:(ops[q]?).bind (·.dst) with
    |none=>rfl
    |some d=>
     have hne:oi.dst≠some d:=fun e=>h1 d e (by
      unfold Oper.looksAt
      rw[hg]
      exact List.mem_append_right _ (by simp[hd]))
     simp only[Qdt,if_neg hne]
  rw[hw] at g2;refine⟨g1,?_⟩
  rcases g2 with ⟨g2,g3⟩|g2
  ·refine .inl ⟨g2,fun st h7 h8=>g3 st (fun z hz=>(h7 z hz).trans (QkO s oi.dst x z fun k hk e=>h1 k hk ?_).symm) (by rw[(QdA _ _ _).1];exact h8)⟩
   subst e
   exact List.mem_append_left _ (List.mem_filterMap.2 ⟨.tmp k,by simpa using hz,rfl⟩)
  exact .inr g2
 exact⟨y,h6,hy.put y h3,hK _ _ (Qmi s x y h2) h5⟩
def Qko (P:Program)(E:X7)(md:Region.Mode)(ops:Array Oper)(n:Nat)(L:Array Bool→St→Prop):Nat→Array Bool→St→Prop
 |0,listed,s=>L listed s
 |f+1,listed,s=>Region.ready md ops listed≠[]∧∀i∈Region.ready md ops listed,i<n∧aOp P E ops i (Qko P E md ops n L f (listed.setIfInBounds i true)) s
theorem Qeb {n:Nat}{L:Array Bool→St→Prop}(hL:∀listed,Yj (L listed)):∀f listed,Yj (Qko P E md ops n L f listed)
 |0,listed=>hL listed
 |f+1,_=>fun _ _ e h=>⟨h.1,fun i hi=>⟨(h.2 i hi).1,QgE (Qeb hL f _) e (h.2 i hi).2⟩⟩
theorem Qne {n i:Nat}{oi:Oper}{x:AV}{L:Array Bool→St→Prop}(hLc:∀listed,Yj (L listed))(hi:ops[i]?=some oi)
  (hs:Region.sinkB md ops n=true) (hc:Region.chainB md ops n=true) (hn:n<ops.size) (hin:i<n)
  (hdone:∀listed s,L listed s→∀j∈Region.ready md ops listed,n≤j) :
  ∀(f:Nat) (listed:Array Bool) (s:St),HeadInv md ops n listed →
   (∀j oj,ops[j]?=some oj→j≠i→listed.getD j true=false→(∀e∈oj.after,Region.binds md e=true→e.on≠i)→oi.apart ops oj=true) →
   i∈Region.ready md ops listed→YA P E ops oi x s →
   Qko P E md ops n L f (listed.setIfInBounds i true) (s.put oi.dst x)→Qko P E md ops n L (f+1) listed s:=by
 intro f
 have own:∀(K:St→Prop) (s:St),YA P E ops oi x s→K (s.put oi.dst x)→aOp P E ops i K s:=fun K s hy H=>by
  unfold aOp;simp only[hi];exact⟨x,hy,H⟩
 induction f with
 |zero=>
  intro listed s inv _ hr hy H
  have hun:=(mem_ready.1 hr).1
  refine⟨fun h=>(by rw[h] at hr;cases hr),fun j hj=>?_⟩
  have hjn:j<n:=by
   rcases Nat.lt_or_ge j n with h|h
   ·exact h
   exact absurd hj (tail_waits hs hc hn inv _ i rfl hin hun j h)
  refine⟨hjn,?_⟩
  by_cases hji:j=i
  ·subst hji;exact own _ _ hy H
  have:=hdone _ _ H j (ready_mono hj hji)
  omega
 |succ f ih=>
  intro listed s inv hfree hr hy H
  have hun:=(mem_ready.1 hr).1
  refine⟨fun h=>(by rw[h] at hr;cases hr),fun j hj=>?_⟩
  have hjn:j<n:=by
   rcases Nat.lt_or_ge j n with h|h
   ·exact h
   exact absurd hj (tail_waits hs hc hn inv _ i rfl hin hun j h)
  refine⟨hjn,?_⟩
  by_cases hji:j=i
  ·subst hji;exact own _ _ hy H
  ·have h1:=(H.2 j (ready_mono hj hji)).2
   obtain⟨hjun,oj,hoj,hall⟩:=mem_ready.1 hj
   have hnot:∀e∈oj.after,Region.binds md e=true→e.on≠i:=fun e he hb heq=>by
    have h1:=hall e he hb
    rw[heq,getD_both hun] at h1
    cases h1
   have h2:=Qhn hoj (hfree j oj hoj hji hjun hnot) (Qeb hLc f _) hy h1
   have hfree':∀k ok,ops[k]?=some ok→k≠i→(listed.setIfInBounds j true).getD k true=false →
     (∀e∈ok.after,Region.binds md e=true→e.on≠i)→oi.apart ops ok=true:=fun k ok hk hki hun hno=>by
    refine hfree k ok hk hki ?_ hno
    by_cases hjk:j=k
    ·subst hjk;exact hjun
    rw[getD_set_ne true hjk] at hun;exact hun
   refine QfE (fun s' h3=>ih (listed.setIfInBounds j true) s' (inv.set hj hjn) hfree' (ready_mono hr (Ne.symm hji)) h3.1 ?_) h2;rw[Array.setIfInBounds_comm _ _ hji];exact h3.2
theorem QmC {n g:Nat}{K:St→Prop}(hK:Yj K)(hs:Region.sinkB md ops n=true)(hc:Region.chainB md ops n=true)(hn:n<ops.size):
  ∀(l:List Oper) (k:Nat) (listed:Array Bool) (s:St),(∀j,j<l.length→l[j]?=ops[k+j]?)→k+l.length=n→HeadInv md ops n listed →
  Region.lexHead md ops g l.length k listed=true→JE P E ops K l s →
  Qko P E md ops n (fun listed' s'=>Region.seqB md ops g n listed'=true∧K s') l.length listed s
 |[],k,listed,s,_,hk,_,hB,h=>by
  have:k=n:=by simpa using hk
  subst this
  exact⟨by simpa [Region.lexHead] using hB,h⟩
 |o::l,k,listed,s,hl,hk,inv,hB,h=>by
  have h0:ops[k]?=some o:=by simpa using (hl 0 (by simp)).symm
  simp only[List.length_cons,Region.lexHead,Bool.and_eq_true] at hB
  obtain⟨⟨hr,hf⟩,hB'⟩:=hB
  have hkn:k<n:=by simp only[List.length_cons] at hk;omega
  have hr':k∈Region.ready md ops listed:=by simpa using hr
  obtain⟨x,hy,hK'⟩:=h
  exact Qne (fun _ _ _ e h=>⟨h.1,hK _ _ e h.2⟩) h0 hs hc hn hkn (fun listed' a' hL=>seqB_ready hL.1) l.length listed s inv (Region.free_spec h0 hf) hr' hy
   (QmC hK hs hc hn l (k+1) _ _ (fun j hj=>by have:=hl (j+1) (by simp;omega);simpa [Nat.add_assoc,Nat.add_comm 1 j] using this) (by simp only[List.length_cons] at hk;omega) (inv.set hr' hkn) hB' hK')
theorem KR {Q':Exit→Act→World→Prop}{i:Nat}{K:St→Prop}{K':Act→World→Prop}{c:Cx}{a:Act}{s:St}(hr:Jk E c a s)(h:∀c' a' s',Jk E c' a' s'→K s'→K' a' c'.w)
  (hh:aOp P E ops i K s):wpOp P ops Q' i K' a c.w:=by
 unfold aOp at hh
 unfold wpOp
 split
 ·rename_i ho;simp only[ho] at hh;exact h c a s hr hh
 ·rename_i o ho
  simp only[ho] at hh
  obtain⟨x,⟨hd,hy⟩,hk⟩:=hh
  rcases hy with ⟨hw,hy⟩|⟨hw,rfl⟩
  ·rw[Xx hw hr,if_pos rfl]
   exact .inl (hy s (fun _ _=>rfl) (QcL.refl _) c a hr K' _ fun c' v hr' hv=>h c' _ _ (hr'.put hd hv) hk)
  ·rw[Xx hw hr]
   simp only[Bool.false_eq_true,if_false]
   exact h c _ _ (hr.put hd (.fr _ _ (.p _))) hk
theorem Qct {n g:Nat}{L:Array Bool→St→Prop}{Q':Exit→Act→World→Prop}(hL:∀listed c a s,Jk E c a s→L listed s→wpAny P md ops Q' g listed a c.w):
  ∀(f:Nat) (listed:Array Bool) (c:Cx) (a:Act) (s:St),Jk E c a s→Qko P E md ops n L f listed s→wpAny P md ops Q' (f+g) listed a c.w
 |0,listed,c,a,s,hr,h=>by rw[Nat.zero_add];exact hL _ _ _ _ hr h
 |f+1,listed,c,a,s,hr,h=>by
  rw[show f+1+g=(f+g)+1 by omega];exact⟨fun h0=>absurd h0 h.1,fun i hi=>KR hr (fun c' a' s' hr' h'=>Qct hL f _ c' a' s' hr' h') (h.2 i hi).2⟩
theorem Qd3 {Q:Exit→St→Prop}(l:List Oper):Yj (Q3 P E ops l Q):=fun _ _ e h c a hr=>h c a (hr.congr e.symm)
theorem Qrb {Q:Exit→St→Prop}{st:St}{id:Nat}{l:List Oper}(n:Nat)(hm:P.follows .mixedOrders=true)(hB:Region.lexTailB .any l.toArray n=true)
  (h:JE P E l.toArray (Q3 P E l.toArray (l.drop n) Q) (l.take n) st):Y1 P E (.region id l.toArray true) Q st:=fun c a hr=>by
 simp only[Region.lexTailB,Bool.and_eq_true,decide_eq_true_eq] at hB
 obtain⟨⟨⟨⟨_,hn⟩,hs⟩,hc⟩,hlex⟩:=hB
 have hn':n<l.length:=by simpa using hn
 have htl:(l.take n).length=n:=by simp;omega
 have hdl:(l.drop n).length=l.toArray.size-n:=by simp
 have inv0:HeadInv .any l.toArray n (Array.replicate l.toArray.size false):=
  ⟨by simp,fun j oj _ hl=>(by rw[getD_replicate_false] at hl;cases hl),fun t _ ht=>getD_in (by simpa using ht) (getD_replicate_false _ _)⟩
 have H:=QmC (P:=P) (E:=E) (md:=.any) (g:=l.toArray.size-n) (Qd3 (P:=P) (E:=E) (Q:=Q) (l.drop n)) hs hc hn (l.take n) 0 _ st (fun j hj=>by
  have hj':j<n:=by rw[htl] at hj;exact hj
  simp[hj']) (by simpa using htl) inv0 (by rw[htl];exact hlex) h
 refine wp_region_any hm ?_
 have hr1:=hr.drew
 have:=Qct (md:=.any) (Q':=QfB E Q) (g:=l.toArray.size-n) (fun listed c a s hr hL=>by
  have:=wpAny_of_seq (md:=.any) (Q':=QfB E Q) (l.drop n) n listed a c.w (fun j=>by simp[List.getElem?_drop]) (by rw[hdl];exact hL.1) (hL.2 c a hr)
  rwa [hdl] at this) _ _ _ _ _ hr1 H
 rw[htl,show n+(l.toArray.size-n)=l.toArray.size by omega] at this;exact this
variable {Q:Exit→St→Prop}{o:Oper}{rest:List Oper}{t:List (Nat×AV)}{H:List (Nat×Qj)}{nx N d:Nat}{w:Bool}{K:St→Prop}
theorem Xh {x:AV}(hN:E.N=N)(hy:PY P E o ⟨t,H,nx⟩ x)(hg:Qo ops ⟨t,H,nx⟩ o=some w)(hw:w=true)(hd:o.dst=some d)(hdN:Nat.blt d N=true)
  (h:JE P E ops K rest ⟨(d,x)::t,H,nx⟩):JE P E ops K (o::rest) ⟨t,H,nx⟩:=by
 subst hw
 exact⟨x,⟨dlt hN hd hdN,.inl ⟨hg,hy⟩⟩,by rw[hd];exact h⟩
theorem QwT (hN:E.N=N)(hg:Qo ops ⟨t,H,nx⟩ o=some w)(hw:w=false)(hd:o.dst=some d)(hdN:Nat.blt d N=true)
  (h:JE P E ops K rest ⟨(d,.p undef)::t,H,nx⟩):JE P E ops K (o::rest) ⟨t,H,nx⟩:=by
 subst hw
 exact⟨.p undef,⟨dlt hN hd hdN,.inr ⟨hg,rfl⟩⟩,by rw[hd];exact h⟩
theorem Qwp (i:Nat){b:Bool}(_:Qb t i=some (.p (.bool b)))(h1:b=true→JE P E ops K rest ⟨t,H,nx⟩)(h2:b=false→JE P E ops K rest ⟨t,H,nx⟩):JE P E ops K rest ⟨t,H,nx⟩:=by
 cases b
 ·exact h2 rfl
 ·exact h1 rfl
theorem XT {b:Bool}(h:b=true):(b==true)=true:=by rw[h];rfl
theorem w10 {b:Bool}(h:b=true):(b==false)=false:=by rw[h];rfl
theorem w01 {b:Bool}(h:b=false):(b==true)=false:=by rw[h];rfl
theorem X3 {b:Bool}(h:b=false):(b==false)=true:=by rw[h];rfl
theorem n1 {b:Bool}(h:(!b)=true):b=false:=by cases b<;>first|rfl|cases h
theorem n0 {b:Bool}(h:(!b)=false):b=true:=by cases b<;>first|rfl|cases h
theorem m1 {b:Bool}(h:b=true):(!b)=false:=by rw[h];rfl
theorem m0 {b:Bool}(h:b=false):(!b)=true:=by rw[h];rfl
theorem Qr {a b:Bool}(h:a=b):AV.p (.bool a)=AV.p (.bool b):=by rw[h]
theorem Q1 {k:IntKind}{a b:Int}(h:a=b):AV.p (.int k a)=AV.p (.int k b):=by rw[h]
theorem KM {a b:Bool}(h:a=b):some (AV.p (.bool a))=some (AV.p (.bool b)):=by rw[h]
theorem Y5 {k:IntKind}{a b:Int}(h:a=b):some (AV.p (.int k a))=some (AV.p (.int k b)):=by rw[h]
end
def AV.one:AV→Bool
 | .p v=>v.oneCell'
 | .sl _ _ | .el _ | .fn _ _ | .emp=>true
 |_=>false
def okE (k:Nat)(e:List AV):Bool:=e.length==k&&e.all AV.one
theorem FR.one {w:World}{S:Nat→Nat→Prop}{v:Value}{x:AV}(h:FR w S v x)(hx:x.one=true):v.oneCell'=true:=by
 cases h<;>first|rfl|exact hx|cases hx
def Qd8 (pl:List (Nat×Nat))(cs:List AV):List (Nat×List AV)→Option (List AV)
 |[]=>some cs
 |(i,ys)::rest=>match pl[i]? with
  |some (off,size)=>bif ys.length==size&&Nat.ble (off+ys.length) cs.length then Qd8 pl (Yq cs off ys) rest else none
  |none=>none
theorem Qjj (off:Nat):∀(vs:List Value) (k:Nat) (cs:Array Value),
  ((vs.zipIdx k).foldl (fun(cs:Array Value) (p:Value×Nat)=>cs.setIfInBounds (off+p.2) p.1) cs).size=cs.size ∧
  ∀i,((vs.zipIdx k).foldl (fun(cs:Array Value) (p:Value×Nat)=>cs.setIfInBounds (off+p.2) p.1) cs)[i]?=if off+k≤i∧i<off+k+vs.length∧i<cs.size then vs[i-(off+k)]? else cs[i]?
 |[],k,cs=>⟨rfl,fun i=>by simp;omega⟩
 |v::vs,k,cs=>by
  obtain⟨h1,h2⟩:=Qjj off vs (k+1) (cs.setIfInBounds (off+k) v)
  simp only[List.zipIdx_cons,List.foldl_cons]
  refine⟨h1.trans (by simp),fun i=>?_⟩;rw[h2 i]
  simp only[Array.size_setIfInBounds,List.length_cons]
  by_cases h5:off+(k+1)≤i∧i<off+(k+1)+vs.length∧i<cs.size
  ·rw[if_pos h5,if_pos (by omega)]
   obtain⟨d,rfl⟩:∃d,i=off+(k+1)+d:=⟨i-(off+(k+1)),by omega⟩
   rw[show off+(k+1)+d-(off+(k+1))=d by omega,show off+(k+1)+d-(off+k)=d+1 by omega];simp
  ·rw[if_neg h5]
   by_cases h6:i=off+k
   ·subst h6
    by_cases h7:off+k<cs.size
    ·rw[if_pos (by omega)];simp[h7]
    rw[if_neg (by omega),Array.getElem?_eq_none (by simp;omega),Array.getElem?_eq_none (by omega)]
   ·rw[if_neg (by omega),Array.getElem?_setIfInBounds_ne (Ne.symm h6)]
theorem Qhj {c:Cx}{pl:List (Nat×Nat)}{place:Nat→Option (Nat×Nat)}(hp:∀i os,pl[i]?=some os→place i=some os):∀(parts:List (Nat×Value)) (ps:List (Nat×List AV)) (cells:Array Value) (cs cs':List AV),
  parts.length=ps.length→(∀(j:Nat) (p:Nat×Value) (q:Nat×List AV),parts[j]?=some p→ps[j]?=some q→p.1=q.1∧p.2.cells.size=q.2.length∧∀(i:Nat) (u:Value) (y:AV),p.2.cells[i]?=some u→q.2[i]?=some y→VR c u y) →
  cells.size=cs.length→(∀(i:Nat) (u:Value) (y:AV),cells[i]?=some u→cs[i]?=some y→VR c u y)→Qd8 pl cs ps=some cs' →
  ∃cells',Instr.fill place cells parts=some cells'∧cells'.size=cs'.length∧∀(i:Nat) (u:Value) (y:AV),cells'[i]?=some u→cs'[i]?=some y→VR c u y
 |[],[],cells,cs,cs',_,_,h1,h2,h=>by cases h;exact⟨cells,rfl,h1,h2⟩
 |[],_::_,_,_,_,h,_,_,_,_=>by cases h
 |_::_,[],_,_,_,h,_,_,_,_=>by cases h
 |(i,v)::parts,(i',ys)::ps,cells,cs,cs',hl,hpp,h1,h2,h=>by
  obtain⟨e1,e2,e3⟩:=hpp 0 _ _ rfl rfl
  simp only at e1 e2 e3
  subst e1
  simp only[Qd8] at h
  cases hpi:pl[i]? with
  |none=>rw[hpi] at h;cases h
  |some os=>
   obtain⟨off,size⟩:=os;rw[hpi] at h
   simp only at h
   cases hb:(ys.length==size&&Nat.ble (off+ys.length) cs.length) with
   |false=>rw[hb] at h;cases h
   |true=>
    rw[hb] at h
    simp only[cond_true] at h
    simp only[Bool.and_eq_true,beq_iff_eq] at hb
    have hle:off+ys.length≤cs.length:=Nat.le_of_ble_eq_true hb.2
    obtain⟨g1,g2⟩:=Qjj off v.cells.toList 0 cells
    have e0:v.cells.toList.zipIdx=v.cells.toList.zipIdx 0:=rfl
    obtain⟨cells',f1,f2,f3⟩:=Qhj (c:=c) hp parts ps ((v.cells.toList.zipIdx 0).foldl (fun(cs:Array Value) (p:Value×Nat)=>cs.setIfInBounds (off+p.2) p.1) cells) (Yq cs off ys) cs'
     (by simpa using hl) (fun j p q hj hk=>hpp (j+1) p q (by simpa using hj) (by simpa using hk)) (by rw[g1,h1];unfold Yq;simp;omega) (fun j u y hj hk=>by
      rw[g2 j] at hj;rw[Qdr cs off ys hle j] at hk
      simp only[Nat.add_zero,Array.length_toList] at hj
      by_cases hin:off≤j∧j<off+ys.length
      ·rw[if_pos hin] at hk
       rw[if_pos (by omega)] at hj;exact e3 _ u y (by simpa using hj) hk
      rw[if_neg hin] at hk;rw[if_neg (by omega)] at hj
      exact h2 j u y hj hk) h
    refine⟨cells',?_,f2,f3⟩
    unfold Instr.fill
    rw[hp i _ hpi];have hsz:¬(v.cells.size≠size):=by omega
    have hsz2:¬(off+v.cells.size > cells.size):=by omega
    simp only[hsz,hsz2,decide_false,Bool.or_self,Bool.false_eq_true,if_false]
    have e4:v.cells.zipIdx.foldl (fun(cs:Array Value) (p:Value×Nat)=>cs.setIfInBounds (off+p.2) p.1) cells=(v.cells.toList.zipIdx 0).foldl (fun(cs:Array Value) (p:Value×Nat)=>cs.setIfInBounds (off+p.2) p.1) cells:=by
     rw[←Array.foldl_toList,Array.toList_zipIdx]
    rw[show(v.cells.zipIdx.foldl (fun cs (x:Value×Nat)=>match x with|(c,j)=>cs.setIfInBounds (off+j) c) cells)=v.cells.zipIdx.foldl (fun(cs:Array Value) (p:Value×Nat)=>cs.setIfInBounds (off+p.2) p.1) cells from rfl,e4];exact f1
def Qmk (P:Program)(t:TypeId):Option (List (Nat×Nat)):=
 match P.underlying t with
 |some (.struct fs)=>fs.toList.mapM fun f=>(Kp P f.type).map fun n=>(f.offset,n)
 |_=>none
class KP (P:Program) (t:TypeId) (zs:outParam (List Value)) (pl:outParam (List (Nat×Nat))):Prop where
 z:(P.info? t).bind (·.zero.map (·.cells.toList))=some zs
 h:Qmk P t=some pl
def Qe2 (st:St):List (Nat×Operand)→Option (List (Nat×List AV))
 |[]=>some []
 |(i,x)::rest=>match (X4 st x).bind (St.cells1 st),Qe2 st rest with
  |some cs,some ps=>some ((i,cs)::ps)
  |_,_=>none
section
variable {P:Program}{E:X7}{st:St}{o:Oper}
theorem Qmq (fs:List Field)(w:World):∀pl,(fs.mapM fun f=>(Kp P f.type).map fun n=>(f.offset,n))=some pl →
  (fs.mapM fun f=>(do pure (f.offset,←sizeOf f.type):Sem (Nat×Nat))).run P w=.ok pl w:=by
 induction fs with
 |nil=>intro pl h;cases h;rfl
 |cons f fs ih=>
  intro pl h;rw[List.mapM_cons] at h
  cases hs:Kp P f.type with
  |none=>rw[hs] at h;cases h
  |some n=>
   rw[hs] at h
   cases hm:(fs.mapM fun f=>(Kp P f.type).map fun n=>(f.offset,n)) with
   |none=>rw[hm] at h;cases h
   |some pl'=>
    rw[hm] at h
    cases h
    rw[List.mapM_cons]
    simp only[Sem.run_bind,X6 hs,Result.andThen_ok,Sem.run_pure,ih pl' hm]
theorem Qh6 {st st':St}(hk:QcL st.H st'.H){y:AV}(h:st.cell1 y=true):st'.cell1 y=true:=by
 cases y with
 |ptr o off=>
  simp only[St.cell1] at h ⊢
  cases ho:Qb st.H o with
  |none=>rw[ho] at h;cases h
  |some ob=>
   rw[ho] at h
   cases ob with
   |var t c=>rw[hk o _ ho rfl]
   |tok t k n=>cases h
   |arr t k es=>cases h
 |own o n=>
  simp only[St.cell1] at h ⊢
  cases ho:Qb st.H o with
  |none=>rw[ho] at h;cases h
  |some ob=>
   rw[ho] at h
   cases ob with
   |var t c=>cases h
   |tok t k n=>cases h
   |arr t k es=>rw[hk o _ ho rfl];exact h
 |p v=>exact h
 |_=>first|exact h|cases h
theorem Qkw {st st':St}(hk:QcL st.H st'.H)(x:AV){cs:List AV}(h:St.cells1 st x=some cs):St.cells1 st' x=some cs:=by
 have one:∀y:AV,(bif st.cell1 y then some [y] else none)=some cs→(bif st'.cell1 y then some [y] else none)=some cs:=fun y h=>by
  cases hc:st.cell1 y with
  |false=>rw[hc] at h;cases h
  |true=>rw[hc] at h;rw[Qh6 hk hc];exact h
 cases x with
 |agg l=>
  simp only[St.cells1] at h ⊢
  cases hc:l.all st.cell1 with
  |false=>rw[hc] at h;cases h
  |true=>
   rw[hc] at h
   have:l.all st'.cell1=true:=List.all_eq_true.2 fun y hy=>Qh6 hk (List.all_eq_true.1 hc y hy)
   rw[this];exact h
 |_=>(simp only[St.cells1] at h ⊢;exact one _ h)
theorem Qce {E:X7}{c:Cx}{a:Act}{st':St}(hr:Jk E c a st')(hH:QcL st.H st'.H):∀ {xs:List (Nat×Operand)} {ps:List (Nat×List AV)},(∀q∈xs,st'.ev q.2=st.ev q.2)→Qe2 st xs=some ps →
  (xs.map fun(i,x)=>(i,a.eval x)).length=ps.length∧∀(j:Nat) (p:Nat×Value) (q:Nat×List AV),(xs.map fun(i,x)=>(i,a.eval x))[j]?=some p→ps[j]?=some q→p.1=q.1∧p.2.cells.size=q.2.length∧∀(i:Nat) (u:Value) (y:AV),p.2.cells[i]?=some u→q.2[i]?=some y→VR c u y
 |[],_,_,h=>by cases h;exact⟨rfl,by simp⟩
 |(i,x)::xs,ps,hev,h=>by
  unfold Qe2 at h
  split at h
  ·rename_i cs ps' h1 h2
   cases h
   obtain⟨f1,f2⟩:=Qce hr hH (fun q hq=>hev q (by simp[hq])) h2;refine⟨by simpa using f1,fun j p q hj hk=>?_⟩
   cases j with
   |zero=>
    simp at hj hk
    subst hj hk
    obtain⟨ax,hx,hc⟩:=Option.bind_eq_some_iff.1 h1
    have hv:=hr.ev x
    rw[hev (i,x) (by simp),QZ hx] at hv;obtain⟨g1,g2,_⟩:=hr.cells hv (Qkw hH ax hc);exact⟨rfl,g1,g2⟩
   |succ j=>exact f2 j p q (by simpa using hj) (by simpa using hk)
  ·cases h
theorem QaS {t:TypeId}{parts:Array (Nat×Operand)}(ho:o.op=.build t parts){zs:List Value}{pl:List (Nat×Nat)}[hT:KP P t zs pl]{ps:List (Nat×List AV)}(hp:Qe2 st parts.toList=some ps){cs:List AV}(hf:Qd8 pl (zs.map .p) ps=some cs):PY P E o st (.agg cs):=by
 refine Kh fun st' h1 h2 c a hr=>?_
 obtain⟨g1,g2⟩:=Qce hr h2 (fun q hq=>h1 q.2 (by
  simp only[ho,Op.operands]
  simp only[List.mem_toArray,List.mem_map]
  exact⟨q,hq,rfl⟩)) hp
 have hz:=hT.z
 cases hi:P.info? t with
 |none=>simp[hi] at hz
 |some i=>
  cases hz0:i.zero with
  |none=>simp[hi,hz0] at hz
  |some z=>
   have hzc:z.cells.toList=zs:=by simpa [hi,hz0] using hz
   have hpl:=hT.h
   unfold Qmk at hpl
   split at hpl
   ·rename_i fs hfs
    obtain⟨cells',f1,f2,f3⟩:=Qhj (c:=c) (pl:=pl) (place:=fun j=>pl.toArray[j]?) (fun j os h=>by simpa using h) _ ps z.cells (zs.map .p) cs g1 g2 (by rw[←hzc];simp) (fun j u y hj hk=>by
     rw[←hzc,List.getElem?_map] at hk
     have hj':z.cells.toList[j]?=some u:=by simpa using hj
     rw[hj'] at hk
     cases hk
     exact .fr _ _ (.p u)) hf
    refine⟨.agg cells',?_,?_⟩
    ·have hm:=Qmq (P:=P) fs.toList c.w pl hpl
     have hm2:(fs.mapM fun f=>(do pure (f.offset,←sizeOf f.type):Sem (Nat×Nat))).run P c.w=.ok pl.toArray c.w:=by
      have:fs=fs.toList.toArray:=rfl
      rw[this,List.mapM_toArray,Sem.run_map,hm]
      rfl
     have hpt:(parts.map fun(i,x)=>(i,a.eval x)).toList=parts.toList.map fun(i,x)=>(i,a.eval x):=by simp
     simp only[execOp,ho,Sem.run_bind,Instr.build,zeroValue,typeInfo,run_program,Result.andThen_ok,hi,Sem.run_pure,hz0,run_underlying hfs,hm2,hpt,f1]
    have:=VR.agg (c:=c) cells'.toList cs (by simpa using f2) (fun j u y hj hk=>f3 j u y (by simpa using hj) hk)
    simpa using this
   cases hpl
end
def QT (n:Nat):Nat→List AV→List (List AV)
 |0,_=>[]
 |k+1,l=>l.take n::QT n k (l.drop n)
theorem QgT (n:Nat):∀(k:Nat) (l:List AV),l.length=k*n→(QT n k l).length=k∧(∀(j:Nat) (e:List AV),(QT n k l)[j]?=some e→e.length=n∧∀i,i<n→e[i]?=l[j*n+i]?)
 |0,l,_=>⟨rfl,by simp[QT]⟩
 |k+1,l,h=>by
  rw[Nat.add_mul,Nat.one_mul] at h;obtain⟨h1,h2⟩:=QgT n k (l.drop n) (by simp;omega);refine⟨by simp[QT,h1],fun j e hj=>?_⟩
  cases j with
  |zero=>
   simp[QT] at hj
   subst hj
   exact⟨by simp;omega,fun i hi=>by rw[List.getElem?_take,if_pos hi];simp⟩
  |succ j=>
   simp only[QT,List.getElem?_cons_succ] at hj
   obtain⟨h3,h4⟩:=h2 j e hj;refine⟨h3,fun i hi=>?_⟩;rw[h4 i hi,List.getElem?_drop]
   congr 1
   rw[Nat.add_mul,Nat.one_mul];omega
theorem Qiq {α:Type}(zs:List α):∀(len i:Nat),((List.replicate len zs).flatten)[i]?=if i<len*zs.length then zs[i % zs.length]? else none
 |0,i=>by simp
 |len+1,i=>by
  rw[List.replicate_succ,List.flatten_cons]
  rcases Nat.lt_or_ge i zs.length with h|h
  ·rw[List.getElem?_append_left h,if_pos (by rw[Nat.add_mul];omega),Nat.mod_eq_of_lt h]
  ·rw[List.getElem?_append_right h,Qiq zs len (i-zs.length)]
   have:i % zs.length=(i-zs.length) % zs.length:=Nat.mod_eq_sub_mod h
   rw[this]
   by_cases h2:i<(len+1)*zs.length
   ·rw[if_pos h2,if_pos (by rw[Nat.add_mul] at h2;omega)]
   ·rw[if_neg h2,if_neg (by rw[Nat.add_mul] at h2;omega)]
section
variable {P:Program}{E:X7}{st:St}{o:Oper}
theorem Q0 {t:TypeId}{len:Nat}{parts:Array (Nat×Operand)}(ho:o.op=.buildSlice t len parts){e:TypeId}{n:Nat}[hT:JJ P t e n]{zs:List Value}[hZ:Xa P e zs]{ps:List (Nat×List AV)}(hp:Qe2 st parts.toList=some ps)
  {flat flat':List AV} (hf:Qd8 ((List.range len).map fun i=>(i*n,n)) ((List.replicate len zs).flatten.map .p) ps=some flat) (hz:fzs flat=some flat') (hn:zs.length=n) (h24:len*n≤16777216) (h25:len≤16777216):PY P E o st (.sl (QT n len flat') none):=by
 intro st' h1 h2 c a hr K Q hK
 obtain⟨g1,g2⟩:=Qce hr h2 (fun q hq=>h1 q.2 (by
  simp only[ho,Op.operands]
  simp only[List.mem_toArray,List.mem_map]
  exact⟨q,hq,rfl⟩)) hp
 obtain⟨i,hi,hsz⟩:=JD hT.size
 have hzz:=hZ.h
 rw[hi] at hzz
 cases hz0:i.zero with
 |none=>simp[hz0] at hzz
 |some z=>
  have hzc:z.cells.toList=zs:=by simpa [hz0] using hzz
  have hzn:z.cells.size=n:=by rw[←Array.length_toList,hzc];exact hn
  obtain⟨cells0,hc0⟩:∃cells0:Array Value,cells0=(Array.range (len*n)).map ((if len*n=0 then #[] else z.cells)[· % (if len*n=0 then #[] else z.cells:Array Value).size]!):=⟨_,rfl⟩
  have hs0:cells0.size=len*n:=by rw[hc0];simp
  have hg0:∀j u,cells0[j]?=some u→j<len*n∧zs[j % n]?=some u:=fun j u hj=>by
   have hjl:j<len*n:=by rw[←hs0];exact(Array.getElem?_eq_some_iff.1 hj).1
   refine⟨hjl,?_⟩;have hne:¬len*n=0:=by omega
   have hn0:0<n:=Nat.pos_of_ne_zero (fun e=>hne (by rw[e,Nat.mul_zero]))
   rw[hc0] at hj
   simp only[hne,if_false] at hj
   rw[Array.getElem?_map] at hj;rw[show(Array.range (len*n))[j]?=some j by simp[hjl]] at hj
   simp only[Option.map_some,Option.some.injEq] at hj
   have hm:j % n<z.cells.size:=by rw[hzn];exact Nat.mod_lt _ hn0
   rw[hzn,getElem!_pos z.cells (j % n) hm] at hj;rw[←hzc]
   simp[hm,hj]
  obtain⟨cells',f1,f2,f3⟩:=Qhj (c:=c) (pl:=(List.range len).map fun i=>(i*n,n)) (place:=fun j=>some (j*n,n)) (fun j os h=>by
    rw[List.getElem?_map] at h
    cases hq:(List.range len)[j]? with
    |none=>rw[hq] at h;cases h
    |some q=>
     rw[hq] at h
     have:q=j:=by have:=(List.getElem?_eq_some_iff.1 hq).2;simpa using this.symm
     subst this
     exact h) _ ps cells0 _ flat g1 g2 (by rw[hs0];simp[hn]) (fun j u y hj hk=>by
    obtain⟨h3,h4⟩:=hg0 j u hj;rw[List.getElem?_map,Qiq,hn,if_pos h3,h4] at hk
    cases hk
    exact .fr _ _ (.p u)) hf
  have hfl:flat.length=len*n:=by
   have key:∀(ps:List (Nat×List AV)) (cs cs':List AV),Qd8 ((List.range len).map fun i=>(i*n,n)) cs ps=some cs'→cs'.length=cs.length:=by
    intro ps
    induction ps with
    |nil=>intro cs cs' h;cases h;rfl
    |cons q ps ih=>
     obtain⟨q1,q2⟩:=q;intro cs cs' h
     simp only[Qd8] at h
     split at h
     ·rename_i off size _
      cases hb:(q2.length==size&&Nat.ble (off+q2.length) cs.length) with
      |false=>rw[hb] at h;cases h
      |true=>
       rw[hb] at h
       simp only[cond_true] at h
       simp only[Bool.and_eq_true] at hb
       have hle:=Nat.le_of_ble_eq_true hb.2
       rw[ih _ _ h]
       unfold Yq;simp;omega
     cases h
   rw[key ps _ _ hf];simp[hn]
  obtain⟨k1,k2⟩:=VR.cells_fz (c:=c) (vs:=cells'.toList) (by simpa using f2) (fun j u y hj hk=>f3 j u y (by simpa using hj) hk) hz
  have hfl':flat'.length=len*n:=by rw[←k1];simp[f2,hfl]
  obtain⟨c1,c2⟩:=QgT n len flat' hfl'
  have hrun:(execOp a.eval o).run P c.w=.ok (.value (.slice (some ⟨c.w.heap.size,0,none⟩) len len)) (c.w.alloc (.cells cells' e)):=by
   have hpt:(parts.map fun(i,x)=>(i,a.eval x)).toList=parts.toList.map fun(i,x)=>(i,a.eval x):=by simp
   have h24':¬(len*i.size > 2 ^ 24):=by rw[hsz];omega
   rw[hc0] at f1
   have f1':=f1
   rw[←hsz] at f1'
   have hs1:(sizeOf e).run P c.w=.ok i.size c.w:=by simp[sizeOf,typeInfo,hi]
   have hz1:(zeroValue e).run P c.w=.ok z c.w:=by simp[zeroValue,typeInfo,hi,hz0]
   by_cases h0:len*i.size=0
   ·simp only[if_pos h0] at f1'
    simp only[execOp,ho,Sem.run_bind,Instr.buildSlice,run_underlying (Xq hT.h),Result.andThen_ok,hs1,h24',if_false,if_pos h0,Sem.run_pure,hpt,f1']
    simp[newRow]
   simp only[if_neg h0] at f1'
   simp only[execOp,ho,Sem.run_bind,Instr.buildSlice,run_underlying (Xq hT.h),Result.andThen_ok,hs1,h24',if_false,if_neg h0,hz1,Sem.run_pure,hpt,f1']
   simp[newRow]
  unfold Oper.wp
  rw[hrun,Oper.upon_value]
  obtain⟨hle,hr'⟩:=hr.ext (w':=c.w.alloc (.cells cells' e)) (S':=fun b off=>c.S b off∨b=c.w.heap.size) (KA _ _) (fun _ _ h=>.inl h) (fun b off h=>by
   rcases h with h|h
   ·exact .inl h
   exact .inr ⟨by omega,by subst h;simp⟩)
  refine hK _ _ hr' (.fr _ _ (.sl _ len len n _ c.w.heap.size 0 (fun j q=>cells'[j*n+q]?.getD undef) c1 (Nat.le_refl _) (by unfold maxLen;omega) (fun _=>rfl) (fun j e' hj=>(c2 j e' hj).1) (fun j e' q y hj hq=>?_) (fun j e' q y hj hq=>?_)))
  all_goals
   obtain⟨c3,c4⟩:=c2 j e' hj
   have hjl:j<len:=by rw[←c1];exact(List.getElem?_eq_some_iff.1 hj).1
   have hql:q<n:=by rw[←c3];exact(List.getElem?_eq_some_iff.1 hq).1
   have hlt:j*n+q<cells'.size:=by
    rw[f2,hfl]
    have:(j+1)*n≤len*n:=Nat.mul_le_mul_right _ hjl
    rw[Nat.add_mul,Nat.one_mul] at this
    omega
   have hcq:cells'[j*n+q]?=some cells'[j*n+q]:=Array.getElem?_eq_getElem hlt
  ·refine⟨.inr rfl,?_⟩
   rw[Nat.zero_add,KT (WB _ _ _),hcq];rfl
  rw[hcq]
  have:=k2 (j*n+q) cells'[j*n+q] y (by simp[hcq]) (by rw[←c4 q hql];exact hq)
  exact this.mono hle.S
end
section
variable {P:Program}{E:X7}{st:St}{o:Oper}
class QaZ (P:Program) (t:TypeId) (e:outParam TypeId) (k bytes:outParam Nat):Prop where
 h:QiG P t=some e
 i:(P.info? e).map (fun i=>(i.size,i.bytes,(i.zero.map (·.cells.size))))=some (k,bytes,some k)
 pos:0<k
theorem FR.news {w:World}{S:Nat→Nat→Prop}{v:Value}{es:List (List AV)}(h:FR w S v (.sl es none)){k:Nat}(hk:es.all (okE k)=true):
  ∃A cc,v=.slice A es.length cc∧∃news:List Value,news.length=es.length*k∧(∀u∈news,u.oneCell'=true)∧(∀(i:Nat) (u:Value) (y:AV),news[i]?=some u→es.flatten[i]?=some y→FR w S u y) ∧
   ((A=none∧es.length=0)∨∃ad,A=some ad∧∀(j:Nat) (u:Value),news[j]?=some u→w.cell? (ad.add j)=some u):=by
 cases h with
 |sl A m cc k' _ b off f hl hm hcc hA hk' hcell hfr=>
  subst hl
  have hE:∀e∈es,e.length=k∧∀x∈e,x.one=true:=fun e he=>by
   have:=List.all_eq_true.1 hk e he
   simp only[okE,Bool.and_eq_true,beq_iff_eq] at this
   exact⟨this.1,fun x hx=>List.all_eq_true.1 this.2 x hx⟩
  rcases Nat.eq_zero_or_pos es.length with h0|h0
  ·have:es=[]:=List.eq_nil_of_length_eq_zero h0
   subst this
   refine⟨A,cc,rfl,[],by simp,by simp,by simp,?_⟩
   cases A with
   |none=>exact .inl ⟨rfl,rfl⟩
   |some ad=>exact .inr ⟨ad,rfl,by simp⟩
  ·obtain rfl:=hA h0
   have hkk:k'=k:=by
    have he:es[0]?=some es[0]:=List.getElem?_eq_getElem h0
    rw[←hk' 0 _ he];exact(hE _ (List.getElem_mem h0)).1
   subst hkk
   have hfl:∀(l:List (List AV)),(∀e∈l,e.length=k')→l.flatten.length=l.length*k'∧∀(j i:Nat),i<k'→l.flatten[j*k'+i]?=(l[j]?).bind (·[i]?):=by
    intro l
    induction l with
    |nil=>intro _;exact⟨by simp,fun j i hi=>by simp⟩
    |cons e l ih=>
     intro h
     have he:=h e (by simp)
     obtain⟨h1,h2⟩:=ih (fun e he=>h e (by simp[he]));refine⟨by simp[he,h1,Nat.add_mul,Nat.add_comm],fun j i hi=>?_⟩
     cases j with
     |zero=>simp[List.getElem?_append_left (show i<e.length by omega)]
     |succ j=>
      rw[List.flatten_cons,List.getElem?_append_right (by rw[he,Nat.add_mul];omega)]
      have:(j+1)*k'+i-e.length=j*k'+i:=by rw[he,Nat.add_mul];omega
      rw[this,h2 j i hi];simp
   obtain⟨hf1,hf2⟩:=hfl es (fun e he=>(hE e he).1)
   have at_:∀q,q<es.length*k'→∃(j i:Nat) (e:List AV) (x:AV),q=j*k'+i∧i<k'∧es[j]?=some e∧e[i]?=some x∧es.flatten[q]?=some x:=fun q hq=>by
    have hk0:0<k':=Nat.pos_of_ne_zero (fun e=>by rw[e] at hq;simp at hq)
    have hj:q / k'<es.length:=Nat.div_lt_of_lt_mul (by rw[Nat.mul_comm];exact hq)
    have hi:q % k'<k':=Nat.mod_lt _ hk0
    have he:es[q / k']?=some es[q / k']:=List.getElem?_eq_getElem hj
    have hel:=(hE _ (List.getElem_mem hj)).1
    have hx:es[q / k'][q % k']?=some (es[q / k'][q % k']'(by omega)):=List.getElem?_eq_getElem _
    have hq':q=q / k'*k'+q % k':=by rw[Nat.mul_comm];exact(Nat.div_add_mod q k').symm
    refine⟨q / k',q % k',_,_,hq',hi,he,hx,?_⟩
    have:=hf2 (q / k') (q % k') hi
    rw[←hq',he] at this
    rw[this];exact hx
   obtain⟨news,hn1,hn2⟩:=QcJ (p:=fun q u=>w.cell? ⟨b,off+q,none⟩=some u∧u.oneCell'=true∧∀y,es.flatten[q]?=some y→FR w S u y) (es.length*k') (fun q hq=>by
    obtain⟨j,i,e,x,rfl,hi,he,hx,hfx⟩:=at_ q hq
    have h1:=hcell j e i x he hx
    have h2:=hfr j e i x he hx
    refine⟨f j i,by rw[←Nat.add_assoc];exact h1.2,h2.one ((hE e (List.mem_of_getElem? he)).2 x (List.mem_of_getElem? hx)),fun y hy=>?_⟩
    rw[hfx] at hy;cases hy;exact h2)
   refine⟨_,cc,rfl,news,hn1,fun u hu=>?_,fun i u y hi hy=>(hn2 i u hi).2.2 y hy,.inr ⟨_,rfl,fun j u hj=>by rw[Addr.add_mk];exact(hn2 j u hj).1⟩⟩;obtain⟨i,hi⟩:=List.mem_iff_getElem?.1 hu;exact(hn2 i u hi).2.1
theorem QeK (w:World)(t ty e:TypeId){k:Nat}(ht:P.underlying t=some (.slice e))(hs:Kp P e=some k)(v:Value)(n:Nat)(xs:List Value)(hown:w.ownsRow 0 e k v n xs)(c:Nat):
  (Builtin.append_ #[t,t] ty #[v,.slice none 0 c]).run P w=.ok v w:=by
 rcases hown.2 with ⟨rfl,rfl⟩|⟨g,cap,cur,rfl,_,_,hnc,_⟩
 ·simp[Builtin.append_,run_underlying ht,X6 hs,Builtin.lenOf,Builtin.firstCells]
 ·simp[Builtin.append_,run_underlying ht,X6 hs,Builtin.lenOf,Builtin.firstCells,hnc,storeCells]
theorem W6 (w:World){t e:TypeId}{k bytes:Nat}[hT:QaZ P t e k bytes](ty:TypeId){v:Value}{n:Nat}{xs:List Value}(hown:w.ownsRow 0 e k v n xs)
  {A:Option Addr} {m cc:Nat} {news:List Value} (hl:news.length=m*k) (h1:∀u∈news,u.oneCell'=true) (hA:(A=none∧m=0)∨∃ad,A=some ad∧∀(j:Nat) (u:Value),news[j]?=some u→w.cell? (ad.add j)=some u)
  (hb:(n+m)*bytes≤140737488355328) (h63:n+m≤9223372036854775807) :
  ∃v' w',(Builtin.append_ #[t,t] ty #[v,.slice A m cc]).run P w=.ok v' w'∧w'.ownsRow 0 e k v' (n+m) (xs++news)∧w'.os=w.os∧w'.tape=w.tape∧w'.output=w.output∧(w.heap.size≤w'.heap.size∧w.drawn≤w'.drawn) ∧
   ((Xd v'=Xd v∧∀b,b<w.heap.size→Xd v≠some b→w'.heap[b]?=w.heap[b]?)∨(Xd v'=some w.heap.size∧∀b,b<w.heap.size→w'.heap[b]?=w.heap[b]?)) ∧
   (∃A' cap',v'=.slice A' (n+m) cap')∧(m=0→v'=v):=by
 have ht:=Xq hT.h
 have hi0:=hT.i
 cases hi:P.info? e with
 |none=>simp[hi] at hi0
 |some i=>
  rw[hi] at hi0
  simp only[Option.map_some,Option.some.injEq,Prod.mk.injEq] at hi0
  obtain⟨e1,e2,e3⟩:=hi0
  cases hz:i.zero with
  |none=>rw[hz] at e3;cases e3
  |some z=>
   rw[hz] at e3
   have hzs:z.cells.size=k:=by simpa using e3
   have hsz:Kp P e=some k:=by simp[Kp,hi,e1]
   rcases hA with ⟨rfl,rfl⟩|⟨ad,rfl,hnews⟩
   ·have:news=[]:=List.eq_nil_of_length_eq_zero (by simpa using hl)
    subst this
    exact⟨v,w,QeK w t ty e ht hsz v n xs hown cc,by simpa using hown,rfl,rfl,rfl,⟨Nat.le_refl _,Nat.le_refl _⟩,.inl ⟨rfl,fun _ _ _=>rfl⟩,by simpa using Y3 hown,fun _=>rfl⟩
   ·subst e1 e2
    have hlen:(xs++news).length=(n+m)*i.size:=by rw[List.length_append,hown.1,hl,Nat.add_mul]
    rcases hown.2 with ⟨rfl,rfl⟩|⟨g,cap,cur,rfl,hbg,hg,hnc,hcm,hcs,htake⟩
    ·have hx:xs=[]:=List.eq_nil_of_length_eq_zero (by simpa using hown.1)
     subst hx
     rcases Nat.eq_zero_or_pos m with h0|h0
     ·subst h0
      have hn:news=[]:=List.eq_nil_of_length_eq_zero (by simpa using hl)
      subst hn
      refine⟨.slice none 0 0,w,?_,hown,rfl,rfl,rfl,⟨Nat.le_refl _,Nat.le_refl _⟩,.inl ⟨rfl,fun _ _ _=>rfl⟩,⟨_,_,rfl⟩,fun _=>rfl⟩
      simp[Builtin.append_,run_underlying ht,X6 hsz,Builtin.lenOf,Builtin.firstCells,loadCells,loadCellsFrom]
     have hrun:=run_append_nil (P:=P) w t ty e i z ht hi hz ad m cc news hl hnews h0 (by omega) (by have hb:=hb;simp only[Nat.zero_add] at hb;omega)
     have hge:=grownCap_ge w m 0 e
     have hcm:=grownCap_le_maxLen w m 0 e (by unfold maxLen;omega)
     refine⟨_,_,hrun,⟨by simpa using hlen,.inr ⟨w.heap.size,_,_,by rw[Nat.zero_add],Nat.zero_le _,heap_alloc_new w.drew _,by omega,hcm,?_,?_⟩⟩,rfl,rfl,rfl,⟨by simp,by first|exact Nat.le_succ _|exact Nat.le_refl _|simp⟩,.inr ⟨rfl,fun b hb'=>heap_alloc_old w.drew _ hb'⟩,⟨_,_,by rw[Nat.zero_add]⟩,fun e=>by omega⟩
     ·simp only[Array.size_append,List.size_toArray,size_zeroCells,hzs,hl,←Nat.add_mul]
      congr 1;omega
     simp only[Array.toList_append,List.nil_append,Nat.zero_add]
     rw[←hl];exact List.take_left
    ·by_cases hroom:n+m≤cap
     ·have hfit:n*i.size+news.length≤cur.size:=by rw[hl,hcs,←Nat.add_mul];exact Nat.mul_le_mul_right _ hroom
      have hrun:=run_append_room (P:=P) w t ty e i ht hi g n cap cur hg ad m cc news hl hnews h1 hroom hfit
      refine⟨_,_,hrun,⟨hlen,.inr ⟨g,cap,_,rfl,hbg,setRow_heap w g cur _ e _ hg,hroom,hcm,?_,?_⟩⟩,rfl,rfl,rfl,⟨by simp,by first|exact Nat.le_succ _|exact Nat.le_refl _|simp⟩,.inl ⟨rfl,fun b _ hne=>setRow_other w g b _ (fun e=>hne (by rw[e];rfl))⟩,⟨_,_,rfl⟩,fun e=>by rw[e,Nat.add_zero]⟩
      ·simp only[List.size_toArray,List.length_append,List.length_take,List.length_drop,Array.length_toList];omega
      rw[htake,←hlen];exact List.take_left
     ·have holds:∀(j:Nat) (u:Value),xs[j]?=some u→w.cell? ((⟨g,0,none⟩:Addr).add j)=some u:=hown.cells (g:=g) rfl
      have hrun:=run_append_grow (P:=P) w t ty e i z ht hi hz ⟨g,0,none⟩ n cap xs hown.1 holds ad m cc news hl hnews (by omega) (by omega) (growslice_fits (by omega) hb)
      have hge:=grownCap_ge w (n+m) cap e
      have hcm:=grownCap_le_maxLen w (n+m) cap e (by unfold maxLen;omega)
      refine⟨_,_,hrun,⟨hlen,.inr ⟨w.heap.size,_,_,rfl,Nat.zero_le _,heap_alloc_new w.drew _,hge,hcm,?_,?_⟩⟩,rfl,rfl,rfl,⟨by simp,by first|exact Nat.le_succ _|exact Nat.le_refl _|simp⟩,.inr ⟨rfl,fun b hb'=>heap_alloc_old w.drew _ hb'⟩,⟨_,_,rfl⟩,fun e=>by omega⟩
      ·simp only[Array.size_append,List.size_toArray,size_zeroCells,hzs,hown.1,hl,←Nat.add_mul]
       congr 1;omega
      ·simp only[Array.toList_append,List.append_assoc]
       rw[←List.append_assoc,←hlen];exact List.take_left
theorem Qhz (w:World){t e:TypeId}{k bytes:Nat}[hT:QaZ P t e k bytes](ty:TypeId)(A0:Option Addr)
  {A:Option Addr} {m cc:Nat} {news:List Value} (hl:news.length=m*k) (h1:∀u∈news,u.oneCell'=true) (hA:(A=none∧m=0)∨∃ad,A=some ad∧∀(j:Nat) (u:Value),news[j]?=some u→w.cell? (ad.add j)=some u)
  (hb:m*bytes≤140737488355328) (h63:m≤9223372036854775807) :
  ∃v' w',(Builtin.append_ #[t,t] ty #[.slice A0 0 0,.slice A m cc]).run P w=.ok v' w'∧w'.os=w.os∧w'.tape=w.tape∧w'.output=w.output∧(w.heap.size≤w'.heap.size∧w.drawn≤w'.drawn)∧(∀b,b<w.heap.size→w'.heap[b]?=w.heap[b]?) ∧
   ((m=0∧v'=.slice A0 0 0)∨(0<m∧Xd v'=some w.heap.size∧w'.ownsRow 0 e k v' m news∧∃A' cap',v'=.slice A' m cap')):=by
 cases A0 with
 |none=>
  obtain⟨v',w',h2,h3,h4,h5,h6,h7,h8,⟨A',cap',h9⟩,h10⟩:=W6 (P:=P) w (t:=t) ty (World.ownsRow_nil w 0 e k) hl h1 hA (by simpa using hb) (by simpa using h63)
  have hall:∀b,b<w.heap.size→w'.heap[b]?=w.heap[b]?:=by
   rcases h8 with ⟨_,h8⟩|⟨_,h8⟩
   ·exact fun b hb=>h8 b hb (by simp[Xd])
   exact h8
  refine⟨v',w',h2,h4,h5,h6,h7,hall,?_⟩
  rcases Nat.eq_zero_or_pos m with h0|h0
  ·exact .inl ⟨h0,h10 h0⟩
  refine .inr ⟨h0,?_,by simpa using h3,A',cap',by simpa using h9⟩
  rcases h8 with ⟨h8,_⟩|⟨h8,_⟩
  ·rcases h3.2 with ⟨rfl,h⟩|⟨g,cap,cur,rfl,_⟩
   ·omega
   simp[Xd] at h8
  exact h8
 |some a0=>
  rcases Nat.eq_zero_or_pos m with h0|h0
  ·subst h0
   have hsz:Kp P e=some k:=by
    have hi0:=hT.i
    cases hi:P.info? e with
    |none=>simp[hi] at hi0
    |some i=>rw[hi] at hi0;simp at hi0;simp[Kp,hi,hi0.1]
   refine⟨.slice (some a0) 0 0,w,?_,rfl,rfl,rfl,⟨Nat.le_refl _,Nat.le_refl _⟩,fun _ _=>rfl,.inl ⟨rfl,rfl⟩⟩
   rcases hA with ⟨rfl,_⟩|⟨ad,rfl,_⟩
   ·simp[Builtin.append_,run_underlying (Xq hT.h),X6 hsz,Builtin.lenOf,Builtin.firstCells,storeCells]
   simp[Builtin.append_,run_underlying (Xq hT.h),X6 hsz,Builtin.lenOf,Builtin.firstCells,loadCells,loadCellsFrom,storeCells]
  ·rcases hA with ⟨_,h⟩|⟨ad,rfl,hnews⟩
   ·omega
   ·have hi0:=hT.i
    cases hi:P.info? e with
    |none=>simp[hi] at hi0
    |some i=>
     rw[hi] at hi0
     simp only[Option.map_some,Option.some.injEq,Prod.mk.injEq] at hi0
     obtain⟨e1,e2,e3⟩:=hi0
     cases hz:i.zero with
     |none=>rw[hz] at e3;cases e3
     |some z=>
      rw[hz] at e3
      have hzs:z.cells.size=k:=by simpa using e3
      subst e1 e2
      have hrun:=run_append_grow (P:=P) w t ty e i z (Xq hT.h) hi hz a0 0 0 [] (by simp) (by simp) ad m cc news hl hnews (by omega) (by omega) (growslice_fits (by omega) (by simpa using hb))
      simp only[Nat.zero_add] at hrun
      have hge:=grownCap_ge w m 0 e
      have hcm:=grownCap_le_maxLen w m 0 e (by unfold maxLen;omega)
      refine⟨_,_,hrun,rfl,rfl,rfl,⟨by simp,by first|exact Nat.le_succ _|exact Nat.le_refl _|simp⟩,fun b hb'=>heap_alloc_old w.drew _ hb',.inr ⟨h0,rfl,⟨hl,.inr ⟨w.heap.size,_,_,rfl,Nat.zero_le _,heap_alloc_new w.drew _,hge,hcm,?_,?_⟩⟩,_,_,rfl⟩⟩
      ·simp only[Array.size_append,List.size_toArray,List.length_nil,size_zeroCells,hzs,hl]
       rw[Nat.zero_add,←Nat.add_mul]
       congr 1;omega
      ·simp only[Array.toList_append,List.nil_append]
       rw[←hl];exact List.take_left
theorem FR.of_own {w:World}{S:Nat→Nat→Prop}{te:TypeId}{k n:Nat}{v:Value}{xs:List Value}(hown:w.ownsRow 0 te k v n xs){es:List (List AV)}(hl:es.length=n)(hk:es.all (okE k)=true)
  (hS:∀b,Xd v=some b→∀off,off<n*k→S b off) (hx:∀(i:Nat) (u:Value) (y:AV),xs[i]?=some u→es.flatten[i]?=some y→FR w S u y):FR w S v (.sl es none):=by
 have hE:∀e∈es,e.length=k:=fun e he=>by
  have:=List.all_eq_true.1 hk e he
  simp only[okE,Bool.and_eq_true,beq_iff_eq] at this
  exact this.1
 have hfl:∀(l:List (List AV)),(∀e∈l,e.length=k)→∀(j i:Nat),i<k→l.flatten[j*k+i]?=(l[j]?).bind (·[i]?):=by
  intro l
  induction l with
  |nil=>intro _ j i hi;simp
  |cons e l ih=>
   intro h j i hi
   have he:=h e (by simp)
   cases j with
   |zero=>simp[List.getElem?_append_left (show i<e.length by omega)]
   |succ j=>
    rw[List.flatten_cons,List.getElem?_append_right (by rw[he,Nat.add_mul];omega)]
    have:(j+1)*k+i-e.length=j*k+i:=by rw[he,Nat.add_mul];omega
    rw[this,ih (fun e he=>h e (by simp[he])) j i hi];simp
 rcases hown.2 with ⟨rfl,rfl⟩|⟨g,cap,cur,rfl,hbg,hg,hnc,hcm,hcs,htk⟩
 ·have:es=[]:=List.eq_nil_of_length_eq_zero hl
  subst this
  exact .nil _ _ _ _ (Nat.zero_le _)
 have at_:∀(j:Nat) (e:List AV) (i:Nat) (x:AV),es[j]?=some e→e[i]?=some x→j*k+i<n*k∧es.flatten[j*k+i]?=some x:=fun j e i x hj hi=>by
  have hjl:j<n:=by rw[←hl];exact(List.getElem?_eq_some_iff.1 hj).1
  have hil:i<k:=by rw[←hE e (List.mem_of_getElem? hj)];exact(List.getElem?_eq_some_iff.1 hi).1
  refine⟨?_,by rw[hfl es hE j i hil,hj];exact hi⟩
  have:(j+1)*k≤n*k:=Nat.mul_le_mul_right _ hjl
  rw[Nat.add_mul,Nat.one_mul] at this
  omega
 refine .sl _ n cap k es g 0 (fun j i=>(xs[j*k+i]?).getD undef) hl hnc hcm (fun _=>rfl) (fun j e hj=>hE e (List.mem_of_getElem? hj)) (fun j e i x hj hi=>?_) (fun j e i x hj hi=>?_)
 ·obtain⟨h1,h2⟩:=at_ j e i x hj hi
  have hxl:j*k+i<xs.length:=by rw[hown.1];exact h1
  refine⟨hS g rfl _ (by omega),?_⟩;obtain⟨g',cap',hg',hc⟩:=Qa7 hown (List.getElem?_eq_getElem hxl)
  have:g=g':=by simpa using (Value.slice.inj hg').1
  subst this
  rw[Nat.zero_add,hc,List.getElem?_eq_getElem hxl];rfl
 obtain⟨h1,h2⟩:=at_ j e i x hj hi
 have hxl:j*k+i<xs.length:=by rw[hown.1];exact h1
 rw[List.getElem?_eq_getElem hxl];exact hx _ _ x (List.getElem?_eq_getElem hxl) h2
end
section
variable {P:Program}{E:X7}
theorem QsJ {w:World}{S:Nat→Nat→Prop}{te:TypeId}{k n:Nat}{v:Value}{xs:List Value}(hown:w.ownsRow 0 te k v n xs){es:List (List AV)}(hl:es.length=n)(hk:es.all (okE k)=true)(hf:FR w S v (.sl es none)):
  ∀(i:Nat) (u:Value) (y:AV),xs[i]?=some u→es.flatten[i]?=some y→FR w S u y:=by
 obtain⟨A,cc,hv,news,h1,_,h3,h4⟩:=hf.news hk;intro i u y hi hy;obtain⟨g,cap,hg,hc⟩:=Qa7 hown hi
 have hil:i<n*k:=by rw[←hown.1];exact(List.getElem?_eq_some_iff.1 hi).1
 rcases h4 with ⟨rfl,h0⟩|⟨ad,rfl,h5⟩
 ·rw[←hl,h0] at hil;omega
 ·rw[hg] at hv
  have had:ad=⟨g,0,none⟩:=by
   have:=(Value.slice.inj hv).1
   exact(Option.some.inj this).symm
  subst had
  have hin:i<news.length:=by rw[h1,hl];exact hil
  have h6:=h5 i _ (List.getElem?_eq_getElem hin)
  rw[Addr.add_mk,Nat.zero_add,hc] at h6
  have:u=news[i]:=Option.some.inj h6
  subst this
  exact h3 i _ y (List.getElem?_eq_getElem hin) hy
theorem Qoj {w:World}{S:Nat→Nat→Prop}{es es':List (List AV)}{xs news:List Value}(h1:es.flatten.length=xs.length)(hx:∀(i:Nat) (u:Value) (y:AV),xs[i]?=some u→es.flatten[i]?=some y→FR w S u y)
  (hn:∀(i:Nat) (u:Value) (y:AV),news[i]?=some u→es'.flatten[i]?=some y→FR w S u y):∀(i:Nat) (u:Value) (y:AV),(xs++news)[i]?=some u→(es++es').flatten[i]?=some y→FR w S u y:=by
 intro i u y hi hy;rw[List.flatten_append] at hy
 rcases Nat.lt_or_ge i xs.length with h|h
 ·rw[List.getElem?_append_left h] at hi
  rw[List.getElem?_append_left (by omega)] at hy;exact hx i u y hi hy
 rw[List.getElem?_append_right h] at hi;rw[List.getElem?_append_right (by omega),h1] at hy;exact hn _ u y hi hy
theorem Qlr {k:Nat}:∀ {es:List (List AV)},es.all (okE k)=true→es.flatten.length=es.length*k
 |[],_=>by simp
 |e::es,h=>by
  simp only[List.all_cons,Bool.and_eq_true] at h
  have he:e.length=k:=by have:=h.1;simp only[okE,Bool.and_eq_true,beq_iff_eq] at this;exact this.1
  rw[List.flatten_cons,List.length_append,he,Qlr h.2,List.length_cons,Nat.add_mul,Nat.one_mul,Nat.add_comm]
variable {c:Cx}{a:Act}{st:St}
theorem Jk.append_tok (hr:Jk E c a st){q:Nat}{t te:TypeId}{k bytes:Nat}[hT:QaZ P t te k bytes](ty:TypeId){es es':List (List AV)}(hq:Qb st.H q=some (.tok te k es.length)){v sv:Value}(hv:VR c v (.sl es (some q)))(hs:FR c.w c.S sv (.sl es' none))
  (hk:es.all (okE k)=true) (hk':es'.all (okE k)=true) (hb:(es.length+es'.length)*bytes≤140737488355328) (h63:es.length+es'.length≤9223372036854775807) :
  ∃(v':Value) (c':Cx),(Builtin.append_ #[t,t] ty #[v,sv]).run P c.w=.ok v' c'.w∧Jk E c' a (st.set q (.tok te k (es.length+es'.length)))∧VR c' v' (.sl (es++es') (some q)):=by
 obtain⟨hkq,v0,hv0,hor,hwr⟩:=hr.live q _ hq;obtain⟨A,cc,rfl,news,hn1,hn2,hn3,hn4⟩:=hs.news hk'
 have hkk:(es++es').all (okE k)=true:=by rw[List.all_append,hk,hk'];rfl
 cases hor with
 |tok _ _ _ _ xs hown hS=>
  obtain⟨A0,cap0,hA0⟩:=Y3 hown
  cases hv with
  |fr _ _ h=>cases h
  |tok _ _ _ hfr hK hV=>
   have hfx:=Qlr hk
   have hxl:=hown.1
   rcases(hV A0 _ cap0 (by rw[hv0,hA0])).2 rfl with hvv|⟨hz,A1,hvv⟩
   ·-- the row itself
    rw[←hA0] at hvv
    subst hvv
    have hxs:=QsJ hown rfl hk hfr
    obtain⟨v',w',r1,r2,r3,r4,r5,r6,r7,⟨A',cap',r8⟩,r9⟩:=W6 (P:=P) c.w (t:=t) ty hown hn1 hn2 hn4 hb h63
    have hlt:∀b,Xd v'=some b→b<w'.heap.size:=fun b hb=>WH r2 hb
    have hsame:∀b off,c.S b off→w'.cell? ⟨b,off,none⟩=c.w.cell? ⟨b,off,none⟩:=fun b off hs=>by
     have hbl:=hr.Ssz b off hs
     rcases r7 with ⟨e1,e2⟩|⟨e1,e2⟩
     ·by_cases hb':Xd v=some b
      ·have hoff:off<es.length*k:=by
        rcases Nat.lt_or_ge off (es.length*k) with h|h
        ·exact h
        exact absurd hs (hS b hb' off h)
       have hox:off<xs.length:=by rw[hxl];exact hoff
       obtain⟨g,cp,hg,hc⟩:=Qa7 hown (List.getElem?_eq_getElem hox)
       have hgb:g=b:=by rw[hg] at hb';simpa [Xd] using hb'
       subst hgb
       obtain⟨g',cp',hg',hc'⟩:=Qa7 r2 (i:=off) (u:=xs[off]) (by rw[List.getElem?_append_left hox];exact List.getElem?_eq_getElem hox)
       have hgg:g'=g:=by rw[hg',hg] at e1;simpa [Xd] using e1
       subst hgg
       rw[hc',hc]
      exact World.cell?_of_block (a:=⟨b,off,none⟩) (e2 b hbl hb')
     exact World.cell?_of_block (a:=⟨b,off,none⟩) (e2 b hbl)
    obtain⟨c',e1,e2,hle,e4,e5,hr'⟩:=hr.upd hq (w':=w') (S':=fun b off=>c.S b off∨(Xd v'=some b∧off<(es.length+es'.length)*k)) hv0 (.tok te k (es.length+es'.length)) (v':=v') r3 r4 r5 r6
     (fun b hb hne=>by
      rcases r7 with ⟨_,e2⟩|⟨_,e2⟩
      ·exact e2 b hb hne
      exact e2 b hb)
     (fun b off hs=>⟨.inl hs,hsame b off hs⟩)
     (fun b off hs=>by
      rcases hs with hs|⟨hs,_⟩
      ·exact .inl hs
      exact .inr ⟨hs,hlt b hs⟩)
     (by
      rcases r7 with ⟨e1,_⟩|⟨e1,_⟩
      ·exact .inl e1
      exact .inr (fun b hb=>by rw[e1] at hb;cases hb;exact Nat.le_refl _))
     (by
      rcases Nat.eq_zero_or_pos es'.length with h0|h0
      ·rw[r9 h0];exact .refl _
      exact .inr (.inr ⟨A0,es.length,cap0,A',_,cap',by rw[hA0],by rw[r8],by omega⟩))
     (fun c' e1 e2 hle=>.tok v' te k _ (xs++news) (by rw[e1];exact r2) (fun b hb off hoff hs=>by
      rw[e2] at hs
      rcases hs with hs|⟨_,hs⟩
      ·rcases r7 with ⟨f1,_⟩|⟨f1,_⟩
       ·exact hS b (f1▸hb) off (by rw[Nat.add_mul] at hoff;omega) hs
       rw[f1] at hb;cases hb
       exact Nat.lt_irrefl _ (hr.Ssz _ _ hs)
      omega))
    refine⟨v',c',by rw[e1];exact r1,hr',.tok _ _ _ ?_ e4 (fun A2 n2 cap2 hh=>?_)⟩
    ·refine FR.of_own (by rw[e1];exact r2) (by simp) hkk (fun b hb off hoff=>by rw[e2];exact .inr ⟨hb,hoff⟩) (Qoj (by rw[hfx,hxl]) (fun i u y hi hy=>(hxs i u y hi hy).mono hle.S) (fun i u y hi hy=>(hn3 i u y hi hy).mono hle.S))
    rw[e5] at hh
    have hh:v'=.slice A2 n2 cap2:=Option.some.inj hh
    rw[r8] at hh
    have hn2:es.length+es'.length=n2:=(Value.slice.inj hh).2.1
    rw[List.length_append];exact⟨by omega,fun _=>.inl (by rw[r8,hh])⟩
   ·-- empty: another empty slice
    have:es=[]:=List.eq_nil_of_length_eq_zero hz
    subst this
    subst hvv
    obtain⟨v',w',r1,r3,r4,r5,r6,r7,r8⟩:=Qhz (P:=P) c.w (t:=t) ty A1 hn1 hn2 hn4 (by simpa using hb) (by simpa using h63)
    rcases r8 with ⟨h0,rfl⟩|⟨h0,r8,r9,A',cap',r10⟩
    ·have:es'=[]:=List.eq_nil_of_length_eq_zero h0
     subst this
     obtain⟨c',e1,e2,hle,e4,e5,hr'⟩:=hr.upd hq (w':=w') (S':=c.S) hv0 (.tok te k 0) (v':=v0) r3 r4 r5 r6 (fun b hb _=>r7 b hb)
      (fun b off hs=>⟨hs,World.cell?_of_block (a:=⟨b,off,none⟩) (r7 b (hr.Ssz b off hs))⟩) (fun b off hs=>.inl hs) (.inl rfl) (.refl _)
      (fun c' e1 e2 hle=>.tok v0 te k 0 xs (by
        rw[e1];refine⟨hown.1,?_⟩
        rcases hown.2 with h|⟨g,cap,cur,h1,h2,h3,h4⟩
        ·exact .inl h
        exact .inr ⟨g,cap,cur,h1,h2,(r7 g (Array.getElem?_eq_some_iff.1 h3).1).trans h3,h4⟩) (fun b hb off hoff hs=>hS b hb off (by simp) (by rw[e2] at hs;exact hs)))
     refine⟨_,c',by rw[e1];exact r1,hr',.tok _ _ _ (.nil _ _ _ _ (Nat.zero_le _)) e4 (fun A2 n2 cap2 hh=>?_)⟩;rw[e5,hA0] at hh
     have hh:=Option.some.inj hh
     have hn2:0=n2:=(Value.slice.inj hh).2.1
     exact⟨Nat.zero_le _,fun _=>.inr ⟨hn2.symm,A1,rfl⟩⟩
    ·obtain⟨c',e1,e2,hle,e4,e5,hr'⟩:=hr.upd hq (w':=w') (S':=fun b off=>c.S b off∨(Xd v'=some b∧off<(0+es'.length)*k)) hv0 (.tok te k (0+es'.length)) (v':=v') r3 r4 r5 r6 (fun b hb _=>r7 b hb)
      (fun b off hs=>⟨.inl hs,World.cell?_of_block (a:=⟨b,off,none⟩) (r7 b (hr.Ssz b off hs))⟩)
      (fun b off hs=>by
       rcases hs with hs|⟨hs,_⟩
       ·exact .inl hs
       exact .inr ⟨hs,WH r9 hs⟩)
      (.inr (fun b hb=>by rw[r8] at hb;cases hb;exact Nat.le_refl _))
      (.inr (.inr ⟨A0,0,cap0,A',es'.length,cap',by rw[hA0];rfl,by rw[r10],h0⟩))
      (fun c' e1 e2 hle=>.tok v' te k _ news (by rw[e1,Nat.zero_add];exact r9) (fun b hb off hoff hs=>by
       rw[e2] at hs
       rcases hs with hs|⟨_,hs⟩
       ·rw[r8] at hb;cases hb
        exact Nat.lt_irrefl _ (hr.Ssz _ _ hs)
       exact absurd hs (Nat.not_lt.2 hoff)))
     refine⟨v',c',by rw[e1];exact r1,hr',.tok _ _ _ ?_ e4 (fun A2 n2 cap2 hh=>?_)⟩
     ·refine FR.of_own (xs:=news) (n:=es'.length) (te:=te) (k:=k) (by rw[e1];exact r9) (by simp) hkk (fun b hb off hoff=>by rw[e2];exact .inr ⟨hb,by rw[Nat.zero_add];exact hoff⟩) (fun i u y hi hy=>(hn3 i u y hi (by simpa using hy)).mono hle.S)
     ·rw[e5] at hh
      have hh:v'=.slice A2 n2 cap2:=Option.some.inj hh
      rw[r10] at hh
      have hn2:es'.length=n2:=(Value.slice.inj hh).2.1
      simp only[List.nil_append]
      exact⟨by omega,fun _=>.inl (by rw[r10,hh])⟩
variable {Q:Exit→St→Prop}{ops:Array Oper}{o:Oper}{rest:List Oper}{t:List (Nat×AV)}{H:List (Nat×Qj)}{nx N d:Nat}{w:Bool}
def QqG:AV→Option (List (List AV))
 | .sl es _=>some es
 | .emp | .p (.slice none 0 0)=>some []
 |_=>none
theorem Qkf {v:Value}{x:AV}{es:List (List AV)}(hv:VR c v x)(h:QqG x=some es):FR c.w c.S v (.sl es none):=by
 have:x.fz=some (.sl es none):=by
  unfold QqG at h
  split at h<;>first|(cases h;rfl)|cases h
 exact hv.fz this
theorem Xp (hN:E.N=N){sx x:Operand}{tt:TypeId}(ho:o.op=.call { callee:=.builtin .append,args := #[sx,x],argTypes := #[tt,tt] }){te:TypeId}{k bytes:Nat}[hT:QaZ P tt te k bytes]
  {es:List (List AV)} {q:Nat} (hs:X4 ⟨t,H,nx⟩ sx=some (.sl es (some q))) {n:Nat} (hq:Qb H q=some (.tok te k n)) (hn:n=es.length) {ax:AV} (hx:X4 ⟨t,H,nx⟩ x=some ax) {es':List (List AV)} (hax:QqG ax=some es')
  (hk:es.all (okE k)=true) (hk':es'.all (okE k)=true) (hb:(es.length+es'.length)*bytes≤140737488355328∧es.length+es'.length≤9223372036854775807) (hg:Qo ops ⟨t,H,nx⟩ o=some w) (hw:w=true) (hd:o.dst=some d) (hdN:Nat.blt d N=true)
  (h:Q3 P E ops rest Q ⟨(d,.sl (es++es') (some q))::t,(q,.tok te k (es++es').length)::H,nx⟩):Q3 P E ops (o::rest) Q ⟨t,H,nx⟩:=by
 subst hw hn
 refine Qbr (.sl (es++es') (some q)) (St.set ⟨t,H,nx⟩ q (.tok te k (es.length+es'.length))) hg (dlt hN hd hdN) (fun c a hr=>?_) (by rw[hd];rw[List.length_append] at h;exact h)
 have hvs:=hr.ev sx
 rw[QZ hs] at hvs
 have hvx:=hr.ev x
 rw[QZ hx] at hvx;obtain⟨v',c',h1,h2,h3⟩:=hr.append_tok (P:=P) (t:=tt) o.type hq hvs (Qkf hvx hax) hk hk' hb.1 hb.2;exact⟨v',c',by simp[execOp,ho,resolve,invoke,builtin,h1],h2,h3⟩
end
structure GIn (Hin:List (Nat×Qj)) (c:Cx):Prop where
 big:∀o,c.K o→Qf≤o
 live:∀o ob,Qb Hin o=some ob→c.K o∧∃v,c.V o=some v∧OR c v ob
 dead:∀o,Qb Hin o=none→c.V o=none
 apart:∀o o' v v' b,c.V o=some v→c.V o'=some v'→Xd v=some b→Xd v'=some b→o=o'
 Ssz:∀b off,c.S b off→b<c.w.heap.size
structure Qxa (Hout:List (Nat×Qj)) (c c':Cx):Prop where
 os:c'.w.os=c.w.os
 tape:c'.w.tape=c.w.tape
 output:c'.w.output=c.w.output
 drawn:c.w.drawn≤c'.w.drawn
 size:c.w.heap.size≤c'.w.heap.size
 frame:∀b,b<c.w.heap.size→(∀o v,c.V o=some v→Xd v≠some b)→c'.w.heap[b]?=c.w.heap[b]?
 le:c.le c'
 K:∀o,c'.K o↔c.K o
 Snew:∀b off,c'.S b off→c.S b off∨(∃o v,c.V o=some v∧Xd v=some b)∨c.w.heap.size≤b
 Ssz:∀b off,c'.S b off→b<c'.w.heap.size
 live:∀o ob,Qb Hout o=some ob→∃v,c'.V o=some v∧OR c' v ob∧∀b,Xd v=some b→(∃o' v',c.V o'=some v'∧Xd v'=some b)∨c.w.heap.size≤b
 dead:∀o,Qb Hout o=none→c'.V o=none
 apart:∀o o' v v' b,c'.V o=some v→c'.V o'=some v'→Xd v=some b→Xd v'=some b→o=o'
def GC (P:Program)(f:FuncId)(args:List AV)(Hin:List (Nat×Qj))(res:AV)(Hout:List (Nat×Qj)):Prop:=
 ∀(c:Cx) (vs:List Value),GIn Hin c→vs.length=args.length→(∀(i:Nat) (v:Value) (x:AV),vs[i]?=some v→args[i]?=some x→VR c v x) →
  Calls P f vs.toArray c.w fun e w'=>∃v c',e=.returned v∧c'.w=w'∧Qxa Hout c c'∧FR c'.w c'.S v res
def retG (ts:List Nat)(res:AV)(_ Hout:List (Nat×Qj)):Exit→St→Prop
 | .normal,st | .ret,st=>(Xz st ts).fzt=some res∧∀o ob,Qb Hout o=some ob→Qb st.H o=some ob∧Qf≤o∧JB 0 ob=true
 |_,_=>False
theorem OR.okId {c c':Cx}{L:Nat}(hw:c'.w=c.w)(hS:c'.S=c.S)(hK:∀o,c.K o→o<L∨Qf≤o→c'.K o)(hV:∀o v,c'.V o=some v→c.V o=some v){v:Value}{ob:Qj}(h:OR c v ob)(hx:JB L ob=true):OR c' v ob:=by
 cases h with
 |var b ccs t cs hh hl hp hSS=>exact .var b ccs t cs (by rw[hw];exact hh) hl (fun i u x h4 h5=>(hp i u x h4 h5).okId hw hS hK hV (List.all_eq_true.1 hx _ (List.mem_of_getElem? h5))) (by rw[hS];exact hSS)
 |tok _ t k n xs ho hSS=>exact .tok v t k n xs (by rw[hw];exact ho) (by rw[hS];exact hSS)
 |arr _ t k es xs ho hks hp hSS=>exact .arr v t k es xs (by rw[hw];exact ho) hks (fun i u x h4 h5=>(hp i u x h4 h5).okId hw hS hK hV (List.all_eq_true.1 hx _ (List.mem_of_getElem? h5))) (by rw[hS];exact hSS)
theorem Yn {P:Program}{f:FuncId}{fn:Func}{code:Code}{args:List AV}{res:AV}{Hin Hout:List (Nat×Qj)}(ts:List Nat)(hf:P.funcs[f]?=some fn)(hb:fn.body=some code)(hres:fn.results=(ts.map ResultVar.tmp).toArray)(N:Nat)(hN:fn.ntmps=N)(hle:args.length≤N)
  (h:∀E:X7,E.N=N→Y1 P E code (retG ts res Hin Hout) ⟨Qao 0 args,Hin,0⟩):GC P f args Hin res Hout:=by
 intro c0 vs hg hvl hv;refine calls_of_wp hf hb ?_
 let E:X7:=⟨N,c0.w,c0.S,fun b=>c0.w.heap.size≤b∨∃o v,c0.V o=some v∧Xd v=some b,fun _ h=>.inl h,c0.K,hg.big,c0.V⟩
 have hr:Jk E c0 { tmps:=vs.toArray++Array.replicate (fn.ntmps-vs.toArray.size) undef,defers:=[] } ⟨Qao 0 args,Hin,0⟩:={
  defers:=rfl
  size:=by show(vs.toArray++Array.replicate (fn.ntmps-vs.toArray.size) undef).size=N;simp;omega
  tmps:=fun i=>by
   show VR _ ((vs.toArray++Array.replicate (fn.ntmps-vs.toArray.size) undef).getD i undef) ((Qb (Qao 0 args) i).getD .bot)
   rw[Wp]
   simp only[Nat.zero_le,if_true,Nat.sub_zero]
   rcases Nat.lt_or_ge i args.length with hlt|hge
   ·have hlt':i<vs.length:=by omega
    have e:(vs.toArray++Array.replicate (fn.ntmps-vs.toArray.size) undef).getD i undef=vs[i]:=by
     simp[Array.getElem?_append,hlt']
    rw[e,List.getElem?_eq_getElem hlt];exact hv i _ _ (List.getElem?_eq_getElem hlt') (List.getElem?_eq_getElem hlt)
   rw[List.getElem?_eq_none hge];exact .fr _ _ (.bot _)
  live:=fun o ob h=>by
   obtain⟨h1,v,h2,h3⟩:=hg.live o ob h;exact⟨h1,v,h2,h3,fun b hb=>.inr ⟨o,v,h2,hb⟩⟩
  dead:=hg.dead
  apart:=hg.apart
  ids:=fun _ h=>.inr h
  nxB:=Nat.zero_le _
  kbs:=fun _ h=>h
  V0:=fun _ _=>.refl _
  Ssz:=hg.Ssz
  os:=rfl,tape:=rfl,output:=rfl,drawn:=Nat.le_refl _,grown:=Nat.le_refl _
  frame:=fun _ _ _=>rfl
  S0:=fun _ _ h=>⟨h,rfl⟩
  Snew:=fun _ _ h=>.inl h }
 refine wp_mono (h E rfl _ _ hr) ?_;rintro e a' w' ⟨c,st,rfl,hr',hq⟩
 have fin:((Xz st ts).fzt=some res∧∀o ob,Qb Hout o=some ob→Qb st.H o=some ob∧Qf≤o∧JB 0 ob=true) →
   a'.defers=[]∧∃v,(results fn a'.tmps).run P c.w=.ok v c.w∧∃v' c',Ending.returned v=.returned v'∧c'.w=c.w∧Qxa Hout c0 c'∧FR c'.w c'.S v' res:=by
  rintro⟨hr2,hout⟩
  obtain⟨V',hV'⟩:∃V':Nat→Option Value,V'=fun o=>if (Qb Hout o).isSome then c.V o else none:=⟨_,rfl⟩
  have hVs:∀o v,V' o=some v→c.V o=some v∧(Qb Hout o).isSome=true:=fun o v h=>by
   rw[hV'] at h;dsimp only at h
   split at h
   ·exact⟨h,by assumption⟩
   cases h
  have hK:∀o,c.K o→Qf≤o→c0.K o:=fun o hk ho=>by
   rcases hr'.ids o hk with h1|h1
   ·have:=hr'.nxB;omega
   exact h1
  have hle:c0.le ⟨c.w,c.S,V',c0.K⟩:=⟨fun b off hs=>hr'.S0 b off hs,fun _ h=>h,fun o hk=>by
   refine(hr'.V0 o hk).trans ?_
   show Qa9 (c.V o) (V' o)
   rw[hV'];dsimp only
   split
   ·exact .refl _
   exact .inr (.inl rfl)⟩
  refine⟨hr'.defers,_,W9 ts hres a'.tmps c.w,_,⟨c.w,c.S,V',c0.K⟩,rfl,rfl,?_,?_⟩
  ·exact {
    os:=hr'.os,tape:=hr'.tape,output:=hr'.output,drawn:=hr'.drawn,size:=hr'.grown
    frame:=fun b hb hn=>hr'.frame b hb (fun hw=>by
     rcases hw with hw|⟨o,v,h1,h2⟩
     ·have hw:c0.w.heap.size≤b:=hw
      have hb:b<c0.w.heap.size:=hb
      omega
     exact hn o v h1 h2)
    le:=hle
    K:=fun _=>Iff.rfl
    Snew:=fun b off hs=>by
     rcases hr'.Snew b off hs with h1|h1|h1
     ·exact .inl h1
     ·exact .inr (.inr h1)
     exact .inr (.inl h1)
    Ssz:=hr'.Ssz
    live:=fun o ob ho=>by
     obtain⟨h1,h2,h3⟩:=hout o ob ho;obtain⟨hk,v,hv,hor,hwr⟩:=hr'.live o ob h1;refine⟨v,by rw[hV'];simp[ho,hv],?_,fun b hb=>?_⟩
     ·exact OR.okId (c:=c) (c':=⟨c.w,c.S,V',c0.K⟩) rfl rfl (fun o hk ho=>hK o hk (by omega)) (fun o v h=>(hVs o v h).1) hor h3
     rcases hwr b hb with h4|h4
     ·exact .inr h4
     exact .inl h4
    dead:=fun o ho=>by show V' o=none;rw[hV'];simp[ho]
    apart:=fun o o' v v' b h1 h2 h3 h4=>hr'.apart o o' v v' b (hVs o v h1).1 (hVs o' v' h2).1 h3 h4 }
  have hvr:VR c (Qsa a'.tmps ts) (Xz st ts):=by
   have many:∀ts:List Nat,VR c (.tuple (ts.map fun t=>a'.tmps.getD t undef).toArray) (.tup (ts.map st.get)):=fun ts=>by
    refine .tup _ _ (by simp) fun i v x hi hj=>?_
    rw[List.getElem?_map] at hi hj
    cases hq:ts[i]? with
    |none=>rw[hq] at hi;cases hi
    |some t=>rw[hq] at hi hj;cases hi;cases hj;exact hr'.tmps t
   match ts with
   |[]=>exact many []
   |[t]=>exact hr'.tmps t
   |t::u::ts=>exact many (t::u::ts)
  generalize Xz st ts=r at hr2 hvr
  cases r with
  |tup xs=>
   simp only[AV.fzt] at hr2
   cases hz:fzl xs with
   |none=>rw[hz] at hr2;cases hr2
   |some ys=>rw[hz] at hr2;cases hr2;exact hvr.tup_fz hz
  |_=>exact hvr.fz hr2
 cases e with
 |normal=>exact fin hq
 |ret=>exact fin hq
 |_=>exact hq.elim
def rn (ρ:List (Nat×Nat))(o:Nat):Nat:=(Qb ρ o).getD o
def Kq (ρ:List (Nat×Nat)):AV→AV
 | .ptr o off=>.ptr (rn ρ o) off
 | .own o n=>.own (rn ρ o) n
 | .eptr o n off=>.eptr (rn ρ o) n off
 | .sl es (some o)=>.sl es (some (rn ρ o))
 |x=>x
def KU (ρ:List (Nat×Nat)):AV→AV
 | .agg cs=>.agg (cs.map (Kq ρ))
 | .tup cs=>.tup (cs.map (Kq ρ))
 | .fn f cs=>.fn f (cs.map (Kq ρ))
 |x=>Kq ρ x
def Qgd (ρ:List (Nat×Nat)):Qj→Qj
 | .var t cs=>.var t (cs.map (Kq ρ))
 | .tok t k n=>.tok t k n
 | .arr t k es=>.arr t k es
def KH (Hin:List (Nat×Qj)):AV→Bool
 | .ptr o _ | .own o _ | .eptr o _ _ | .sl _ (some o)=>(Qb Hin o).isSome
 | .agg _ | .tup _ | .fn _ _=>false
 |_=>true
def Qg7 (Hin:List (Nat×Qj)):Qj→Bool
 | .var _ cs=>cs.all (KH Hin)
 | .tok _ _ _=>true
 | .arr _ _ es=>es.flatten.all fun x=>match x with | .p _ | .sl _ none | .emp | .bot | .el _=>true|_=>false
def Qcn:AV→Bool
 | .ptr o _ | .own o _ | .eptr o _ _ | .sl _ (some o)=>Nat.ble Qf o
 | .agg _ | .tup _ | .fn _ _=>false
 |_=>true
def QbK:AV→Bool
 | .agg cs | .tup cs | .fn _ cs=>cs.all Qcn
 |x=>Qcn x
section
variable {c c0:Cx}{ρ:List (Nat×Nat)}
theorem VR.into1 (hw:c0.w=c.w)(hS:c0.S=c.S)(hK:∀o,Qf≤o→c.K (rn ρ o)→c0.K o)(hV:∀o v,c0.V o=some v→c.V (rn ρ o)=some v){v:Value}{x:AV}(h:VR c v (Kq ρ x))(hx:Qcn x=true):VR c0 v x:=by
 have fr:∀ {v:Value} {x:AV},FR c.w c.S v x→VR c0 v x:=fun h=>.fr _ _ (by rw[hw,hS];exact h)
 have ge:∀ {o},Nat.ble Qf o=true→Qf≤o:=fun h=>Nat.le_of_ble_eq_true h
 cases x with
 |ptr o off=>cases h with
  |fr _ _ h=>cases h
  |ptr _ _ _ hk hv=>exact .ptr _ _ _ (hK o (ge hx) hk) fun b e=>hv b (hV _ _ e)
 |own o n=>cases h with
  |fr _ _ h=>cases h
  |own _ _ _ hk hv=>exact .own _ _ _ (hK o (ge hx) hk) fun A n cap e=>hv A n cap (hV _ _ e)
 |eptr o n off=>cases h with
  |fr _ _ h=>cases h
  |eptr _ _ _ _ hk hv=>exact .eptr _ _ _ _ (hK o (ge hx) hk) fun A n cap e=>hv A n cap (hV _ _ e)
 |sl es tk=>cases tk with
  |none=>exact fr h.sl_inv
  |some o=>cases h with
   |fr _ _ h=>cases h
   |tok _ _ _ h hk hv=>exact .tok _ _ _ (by rw[hw,hS];exact h) (hK o (ge hx) hk) fun A n cap e=>hv A n cap (hV _ _ e)
 |agg cs=>cases hx
 |tup cs=>cases hx
 |fn f cs=>cases hx
 |bot=>cases h with|fr _ _ h=>exact fr h
 |p u=>cases h with|fr _ _ h=>exact fr h
 |emp=>cases h with|fr _ _ h=>exact fr h
 |el cs=>cases h with|fr _ _ h=>exact fr h
theorem VR.intoV (hw:c0.w=c.w)(hS:c0.S=c.S)(hK:∀o,Qf≤o→c.K (rn ρ o)→c0.K o)(hV:∀o v,c0.V o=some v→c.V (rn ρ o)=some v){v:Value}{x:AV}(h:VR c v (KU ρ x))(hx:QbK x=true):VR c0 v x:=by
 have many:∀ {vs:List Value} {cs:List AV},cs.all Qcn=true→(∀(i:Nat) (v:Value) (x:AV),vs[i]?=some v→(cs.map (Kq ρ))[i]?=some x→VR c v x)→∀(i:Nat) (v:Value) (x:AV),vs[i]?=some v→cs[i]?=some x→VR c0 v x:=
  fun hc h i v x hi hj=>(h i v _ hi (by rw[List.getElem?_map,hj];rfl)).into1 hw hS hK hV (List.all_eq_true.1 hc _ (List.mem_of_getElem? hj))
 cases x with
 |agg cs=>cases h with
  |fr _ _ h=>cases h with|agg vs _ hl h=>exact .agg vs cs (by simpa using hl) (many hx (fun i v x h1 h2=>.fr _ _ (h i v x h1 h2)))
  |agg vs _ hl h=>exact .agg vs cs (by simpa using hl) (many hx h)
 |tup cs=>cases h with
  |fr _ _ h=>cases h with|tup vs _ hl h=>exact .tup vs cs (by simpa using hl) (many hx (fun i v x h1 h2=>.fr _ _ (h i v x h1 h2)))
  |tup vs _ hl h=>exact .tup vs cs (by simpa using hl) (many hx h)
 |fn f cs=>cases h with
  |fr _ _ h=>cases h with|fn _ vs _ hl h=>exact .fn f vs cs (by simpa using hl) (many hx (fun i v x h1 h2=>.fr _ _ (h i v x h1 h2)))
  |fn _ vs _ hl h=>exact .fn f vs cs (by simpa using hl) (many hx h)
 |_=>exact VR.into1 hw hS hK hV h hx
theorem VR.back1 {c' c0':Cx}{Hin:List (Nat×Qj)}(hw:c'.w=c0'.w)(hS:c'.S=c0'.S)(hK:∀o,c0'.K o→c'.K (rn ρ o))(hV:∀o v,(Qb Hin o).isSome=true→c'.V (rn ρ o)=some v→c0'.V o=some v){v:Value}{x:AV}(h:VR c0' v x)(hx:KH Hin x=true):VR c' v (Kq ρ x):=by
 have fr:∀ {v:Value} {x:AV},FR c0'.w c0'.S v x→VR c' v x:=fun h=>.fr _ _ (by rw[hw,hS];exact h)
 cases h with
 |fr _ _ h=>cases h with
  |bot=>exact fr (.bot _)
  |p=>exact fr (.p _)
  |emp A=>exact fr (.emp A)
  |sl A n cc k es b off f hl hn hc hA hk hcell h=>exact fr (.sl A n cc k es b off f hl hn hc hA hk hcell h)
  |el b off cs f hcell h=>exact fr (.el b off cs f hcell h)
  |agg=>cases hx
  |tup=>cases hx
  |fn=>cases hx
 |tok _ es o h hk hv=>exact .tok _ _ _ (by rw[hw,hS];exact h) (hK o hk) fun A n cap e=>hv A n cap (hV _ _ hx e)
 |own _ o n hk hv=>exact .own _ _ _ (hK o hk) fun A n cap e=>hv A n cap (hV _ _ hx e)
 |ptr _ o off hk hv=>exact .ptr _ _ _ (hK o hk) fun b e=>hv b (hV _ _ hx e)
 |eptr _ o n off hk hv=>exact .eptr _ _ _ _ (hK o hk) fun A n cap e=>hv A n cap (hV _ _ hx e)
 |agg=>cases hx
 |tup=>cases hx
 |fn=>cases hx
end
def okB (ob:Qj):Bool:=match ob with
 | .var _ cs=>cs.all Qcn
 | .tok _ _ _=>true
 | .arr _ _ es=>es.flatten.all fun x=>match x with | .p _ | .sl _ none | .emp | .bot | .el _=>true|_=>false
theorem QgO {x:AV}(h:(match x with | .p _ | .sl _ none | .emp | .bot | .el _=>true|_=>false)=true){c:Cx}{u:Value}(hv:VR c u x):FR c.w c.S u x:=by
 cases x with
 |p v=>cases hv with|fr _ _ h=>exact h
 |emp=>cases hv with|fr _ _ h=>exact h
 |bot=>exact .bot _
 |el cs=>cases hv with|fr _ _ h=>exact h
 |sl es tk=>cases tk with
  |none=>exact hv.sl_inv
  |some o=>cases h
 |_=>cases h
section
variable {P:Program}{E:X7}{c:Cx}{a:Act}{st:St}
theorem Jk.gcall (hr:Jk E c a st){f:FuncId}{bs:List AV}{Hin Hout:List (Nat×Qj)}{res:AV}(hc:GC P f bs Hin res Hout)(ρ:List (Nat×Nat))(H':List (Nat×Qj))
  (hin:∀o ob,Qb Hin o=some ob→Qb st.H (rn ρ o)=some (Qgd ρ ob)∧Qf≤o∧okB ob=true)
  (inj:∀o o',(Qb Hin o).isSome=true→(Qb Hin o').isSome=true→rn ρ o=rn ρ o'→o=o')
  (dom:∀o,(Qb Hin o).isSome=(Qb Hout o).isSome) (hout:∀o ob,Qb Hout o=some ob→Qg7 Hin ob=true)
  (h1:∀o ob,Qb Hout o=some ob→Qb H' (rn ρ o)=some (Qgd ρ ob)) (h2:∀q,(∀o,(Qb Hin o).isSome=true→rn ρ o≠q)→Qb H' q=Qb st.H q)
  {vs:List Value} (hvl:vs.length=bs.length) (hbig:bs.all QbK=true) (hv:∀(i:Nat) (v:Value) (x:AV),vs[i]?=some v→bs[i]?=some x→VR c v (KU ρ x)) :
  Calls P f vs.toArray c.w fun e w'=>∃v c',e=.returned v∧c'.w=w'∧Jk E c' a { st with H:=H' }∧FR c'.w c'.S v res:=by
 classical
 obtain⟨V0,hV0⟩:∃V0:Nat→Option Value,V0=fun o=>if (Qb Hin o).isSome then c.V (rn ρ o) else none:=⟨_,rfl⟩
 have hV0s:∀o v,V0 o=some v→c.V (rn ρ o)=some v∧(Qb Hin o).isSome=true:=fun o v h=>by
  rw[hV0] at h;dsimp only at h
  split at h
  ·exact⟨h,by assumption⟩
  cases h
 have hV0i:∀o,(Qb Hin o).isSome=true→V0 o=c.V (rn ρ o):=fun o h=>by rw[hV0];simp[h]
 have hK0:∀o,Qf≤o→c.K (rn ρ o)→(⟨c.w,c.S,V0,fun o=>Qf≤o∧c.K (rn ρ o)⟩:Cx).K o:=fun o h1 h2=>⟨h1,h2⟩
 have gin:GIn Hin ⟨c.w,c.S,V0,fun o=>Qf≤o∧c.K (rn ρ o)⟩:={
  big:=fun o h=>h.1
  live:=fun o ob ho=>by
   obtain⟨g1,g2,g3⟩:=hin o ob ho;obtain⟨hk,v,hvv,hor,_⟩:=hr.live _ _ g1;refine⟨⟨g2,hk⟩,v,(hV0i o (by rw[ho];rfl)).trans hvv,?_⟩
   cases ob with
   |var t cs=>cases hor with
    |var b ccs _ _ hh hl hp hS=>
     exact .var b ccs t cs hh (by simpa using hl) (fun i u x hi hj=>VR.into1 (c:=c) (c0:=⟨c.w,c.S,V0,fun o=>Qf≤o∧c.K (rn ρ o)⟩) (ρ:=ρ) rfl rfl hK0 (fun o v h=>(hV0s o v h).1) (hp i u _ hi (by rw[List.getElem?_map,hj];rfl)) (List.all_eq_true.1 g3 _ (List.mem_of_getElem? hj))) hS
   |tok t k n=>cases hor with|tok _ _ _ _ xs ho hS=>exact .tok v t k n xs ho hS
   |arr t k es=>cases hor with
    |arr _ _ _ _ xs ho hks hp hS=>exact .arr v t k es xs ho hks (fun i u x hi hj=>.fr _ _ (QgO (c:=c) (List.all_eq_true.1 g3 _ (List.mem_of_getElem? hj)) (hp i u x hi hj))) hS
  dead:=fun o ho=>by show V0 o=none;rw[hV0];simp[ho]
  apart:=fun o o' v v' b g1 g2 g3 g4=>by
   obtain⟨k1,k2⟩:=hV0s o v g1;obtain⟨k3,k4⟩:=hV0s o' v' g2;exact inj o o' k2 k4 (hr.apart _ _ v v' b k1 k3 g3 g4)
  Ssz:=hr.Ssz }
 refine(hc _ vs gin hvl (fun i v x hi hj=>VR.intoV (c:=c) (c0:=⟨c.w,c.S,V0,fun o=>Qf≤o∧c.K (rn ρ o)⟩) (ρ:=ρ) rfl rfl hK0 (fun o v h=>(hV0s o v h).1) (hv i v x hi hj) (List.all_eq_true.1 hbig _ (List.mem_of_getElem? hj)))).mono ?_;rintro e w' ⟨v,c0',rfl,rfl,go,hfr⟩
 obtain⟨V',hV'⟩:∃V':Nat→Option Value,V'=fun q=>if h:∃o,(Qb Hin o).isSome=true∧rn ρ o=q then c0'.V h.choose else c.V q:=⟨_,rfl⟩
 have hVq:∀o,(Qb Hin o).isSome=true→V' (rn ρ o)=c0'.V o:=fun o ho=>by
  have hex:∃o',(Qb Hin o').isSome=true∧rn ρ o'=rn ρ o:=⟨o,ho,rfl⟩
  rw[hV'];dsimp only;rw[dif_pos hex];exact congrArg c0'.V (inj _ _ hex.choose_spec.1 ho hex.choose_spec.2)
 have hVn:∀q,(∀o,(Qb Hin o).isSome=true→rn ρ o≠q)→V' q=c.V q:=fun q hq=>by
  have hex:¬ ∃o',(Qb Hin o').isSome=true∧rn ρ o'=q:=fun⟨o,g1,g2⟩=>hq o g1 g2
  rw[hV'];dsimp only;rw[dif_neg hex]
 have part:∀q,(∃o,(Qb Hin o).isSome=true∧rn ρ o=q)∨(∀o,(Qb Hin o).isSome=true→rn ρ o≠q):=fun q=>by
  by_cases h:∃o,(Qb Hin o).isSome=true∧rn ρ o=q
  ·exact .inl h
  exact .inr (fun o g1 g2=>h ⟨o,g1,g2⟩)
 have hlec:c.le ⟨c0'.w,c0'.S,V',c.K⟩:=⟨fun b off hs=>go.le.S b off hs,fun _ h=>h,fun q hk=>by
  rcases part q with ⟨o,g1,rfl⟩|hq
  ·show Qa9 (c.V (rn ρ o)) (V' (rn ρ o))
   rw[hVq o g1,←hV0i o g1]
   cases ho:Qb Hin o with
   |none=>rw[ho] at g1;cases g1
   |some ob=>exact go.le.V o (gin.live o ob ho).1
  exact .inl (hVn q hq)⟩
 have hsz:=go.size
 have oth:∀q u,(∀o,(Qb Hin o).isSome=true→rn ρ o≠q)→c.V q=some u→∀b,Xd u=some b→∀o v,V0 o=some v→Xd v≠some b:=fun q u hq hu b hb o v hov e=>by
  obtain⟨k1,k2⟩:=hV0s o v hov;exact hq o k2 (hr.apart _ _ v u b k1 hu e hb)
 have lv:∀q u,c.V q=some u→∃ob,Qb st.H q=some ob∧OR c u ob∧∀b,Xd u=some b→E.Wr b:=fun q u hu=>by
  cases hl:Qb st.H q with
  |none=>rw[hr.dead q hl] at hu;cases hu
  |some ob=>
   obtain⟨_,u',hu',hor,hwr⟩:=hr.live q ob hl
   rw[hu] at hu';cases hu'
   exact⟨ob,rfl,hor,hwr⟩
 have wrIn:∀o v b,V0 o=some v→Xd v=some b→E.Wr b∧b<c.w.heap.size:=fun o v b hov hb=>by
  obtain⟨ob,_,hor,hwr⟩:=lv _ _ (hV0s o v hov).1;exact⟨hwr b hb,hor.lt hb⟩
 refine⟨v,⟨c0'.w,c0'.S,V',c.K⟩,rfl,rfl,?_,hfr⟩
 exact {
  defers:=hr.defers,size:=hr.size
  tmps:=fun i=>(hr.tmps i).mono hlec
  live:=fun q ob hq=>by
   rcases part q with ⟨o,g1,rfl⟩|hnq
   ·have g1':(Qb Hout o).isSome=true:=by rw[←dom];exact g1
    cases ho:Qb Hout o with
    |none=>rw[ho] at g1';cases g1'
    |some ob0=>
     have hq':=h1 o ob0 ho
     have:ob=Qgd ρ ob0:=by rw[show Qb H' (rn ρ o)=some ob from hq] at hq';exact Option.some.inj hq'
     subst this
     obtain⟨u,hu,hor,hbl⟩:=go.live o ob0 ho
     have hk:c.K (rn ρ o):=by
      cases ho2:Qb Hin o with
      |none=>rw[ho2] at g1;cases g1
      |some ob2=>exact(gin.live o ob2 ho2).1.2
     refine⟨hk,u,(hVq o g1).trans hu,?_,fun b hb=>?_⟩
     ·have hio:=hout o ob0 ho
      have bk:∀ {u:Value} {x:AV},VR c0' u x→KH Hin x=true→VR ⟨c0'.w,c0'.S,V',c.K⟩ u (Kq ρ x):=fun h hx=>
       VR.back1 (c0':=c0') (c':=⟨c0'.w,c0'.S,V',c.K⟩) rfl rfl (fun o hk=>((go.K o).1 hk).2) (fun o v hs e=>by rw[←hVq o hs];exact e) h hx
      cases ob0 with
      |var t cs=>cases hor with
       |var b ccs _ _ hh hl hp hS=>
        exact .var b ccs t _ hh (by simpa using hl) (fun i u x hi hj=>by
         rw[List.getElem?_map] at hj
         cases hx:cs[i]? with
         |none=>rw[hx] at hj;cases hj
         |some x0=>
          rw[hx] at hj;cases hj
          exact bk (hp i u x0 hi hx) (List.all_eq_true.1 hio _ (List.mem_of_getElem? hx))) hS
      |tok t k n=>cases hor with|tok _ _ _ _ xs ho hS=>exact .tok u t k n xs ho hS
      |arr t k es=>cases hor with
       |arr _ _ _ _ xs ho hks hp hS=>exact .arr u t k es xs ho hks (fun i u x hi hj=>(VR.fr _ _ (QgO (c:=c0') (List.all_eq_true.1 hio _ (List.mem_of_getElem? hj)) (hp i u x hi hj)))) hS
     rcases hbl b hb with ⟨o',v',g2,g3⟩|g2
     ·exact(wrIn o' v' b g2 g3).1
     exact E.new b (Nat.le_trans hr.grown g2)
   have hq':Qb st.H q=some ob:=by rw[←h2 q hnq];exact hq
   obtain⟨hk,u,hu,hor,hwr⟩:=hr.live q ob hq';refine⟨hk,u,(hVn q hnq).trans hu,?_,hwr⟩
   have hst:∀b,Xd u=some b→c0'.w.heap[b]?=c.w.heap[b]?:=fun b hb=>go.frame b (hor.lt hb) (fun o v hov=>oth q u hnq hu b hb o v hov)
   have hSs:∀b,Xd u=some b→∀off,c0'.S b off→c.S b off:=fun b hb off hs=>by
    rcases go.Snew b off hs with g1|⟨o,v,g1,g2⟩|g1
    ·exact g1
    ·exact absurd g2 (oth q u hnq hu b hb o v g1)
    have:=hor.lt hb
    have g1:c.w.heap.size≤b:=g1
    omega
   cases hor with
   |var b ccs t cs hh hl hp hn=>exact .var b ccs t cs ((hst b rfl).trans hh) hl (fun i u x h1 h2=>(hp i u x h1 h2).mono hlec) (fun off hs=>hn off (hSs b rfl off hs))
   |tok _ t k n xs ho2 hn=>
    refine .tok u t k n xs ?_ (fun b hb off hle hs=>hn b hb off hle (hSs b hb off hs));refine⟨ho2.1,?_⟩
    rcases ho2.2 with h1|⟨g,cap,cur,rfl,h1,h2,h3⟩
    ·exact .inl h1
    exact .inr ⟨g,cap,cur,rfl,h1,(hst g rfl).trans h2,h3⟩
   |arr _ t k es xs ho2 hk2 hp hn=>
    refine .arr u t k es xs ?_ hk2 (fun i u x h1 h2=>(hp i u x h1 h2).mono hlec) (fun b hb off hs=>hn b hb off (hSs b hb off hs));refine⟨ho2.1,?_⟩
    rcases ho2.2 with h1|⟨g,cap,cur,rfl,h1,h2,h3⟩
    ·exact .inl h1
    exact .inr ⟨g,cap,cur,rfl,h1,(hst g rfl).trans h2,h3⟩
  dead:=fun q hq=>by
   rcases part q with ⟨o,g1,rfl⟩|hnq
   ·have g1':(Qb Hout o).isSome=true:=by rw[←dom];exact g1
    cases ho:Qb Hout o with
    |none=>rw[ho] at g1';cases g1'
    |some ob0=>
     have:=h1 o ob0 ho
     rw[show Qb H' (rn ρ o)=none from hq] at this
     cases this
   exact(hVn q hnq).trans (hr.dead q (by rw[←h2 q hnq];exact hq))
  apart:=fun q q' u u' b hu hu' hb1 hb2=>by
   have ofIn:∀o v,(Qb Hin o).isSome=true→c0'.V o=some v→∀b,Xd v=some b→(∃o' v',V0 o'=some v'∧Xd v'=some b)∨c.w.heap.size≤b:=fun o v g1 g2 b hb=>by
    have g1':(Qb Hout o).isSome=true:=by rw[←dom];exact g1
    cases ho:Qb Hout o with
    |none=>rw[ho] at g1';cases g1'
    |some ob0=>
     obtain⟨v2,g3,_,g4⟩:=go.live o ob0 ho
     rw[g2] at g3;cases g3
     exact g4 b hb
   have mix:∀o v q u b,(Qb Hin o).isSome=true→c0'.V o=some v→(∀o,(Qb Hin o).isSome=true→rn ρ o≠q)→c.V q=some u→Xd v=some b→Xd u=some b→False:=fun o v q u b g1 g2 g3 g4 g5 g6=>by
    rcases ofIn o v g1 g2 b g5 with ⟨o',v',k1,k2⟩|k1
    ·exact oth q u g3 g4 b g6 o' v' k1 k2
    obtain⟨ob,_,hor,_⟩:=lv q u g4
    have:=hor.lt g6
    omega
   have hu:V' q=some u:=hu
   have hu':V' q'=some u':=hu'
   rcases part q with ⟨o,g1,rfl⟩|hnq<;>rcases part q' with ⟨o',g2,rfl⟩|hnq'
   ·rw[hVq o g1] at hu
    rw[hVq o' g2] at hu';rw[go.apart o o' u u' b hu hu' hb1 hb2]
   ·rw[hVq o g1] at hu
    rw[hVn q' hnq'] at hu';exact(mix o u q' u' b g1 hu hnq' hu' hb1 hb2).elim
   ·rw[hVn q hnq] at hu
    rw[hVq o' g2] at hu';exact(mix o' u' q u b g2 hu' hnq hu hb2 hb1).elim
   rw[hVn q hnq] at hu;rw[hVn q' hnq'] at hu';exact hr.apart q q' u u' b hu hu' hb1 hb2
  ids:=hr.ids,nxB:=hr.nxB,kbs:=hr.kbs
  V0:=fun q hk=>(hr.V0 q hk).trans (hlec.V q (hr.kbs q hk))
  Ssz:=go.Ssz
  os:=go.os.trans hr.os,tape:=go.tape.trans hr.tape,output:=go.output.trans hr.output,drawn:=Nat.le_trans hr.drawn go.drawn
  grown:=Nat.le_trans hr.grown hsz
  frame:=fun b hb hn=>by
   refine(go.frame b (Nat.lt_of_lt_of_le hb hr.grown) (fun o v hov e=>hn (wrIn o v b hov e).1)).trans (hr.frame b hb hn)
  S0:=fun b off hs=>⟨(go.le.S _ _ (hr.S0 b off hs).1).1,((go.le.S _ _ (hr.S0 b off hs).1).2).trans (hr.S0 b off hs).2⟩
  Snew:=fun b off hs=>by
   rcases go.Snew b off hs with g1|⟨o,v,g1,g2⟩|g1
   ·exact hr.Snew b off g1
   ·exact .inr (wrIn o v b g1 g2).1
   ·exact .inr (E.new b (Nat.le_trans hr.grown g1)) }
variable {Q:Exit→St→Prop}{ops:Array Oper}{o:Oper}{rest:List Oper}{t:List (Nat×AV)}{H:List (Nat×Qj)}{nx N d:Nat}{w:Bool}
def Qwl (ρ:List (Nat×Nat))(H:List (Nat×Qj)):List (Nat×Qj)→Prop
 |[]=>True
 |(o,ob)::r=>Qb H (rn ρ o)=some (Qgd ρ ob)∧Nat.ble Qf o=true∧okB ob=true∧Qwl ρ H r
theorem QjT {ρ:List (Nat×Nat)}{H:List (Nat×Qj)}:∀ {Hin:List (Nat×Qj)},Qwl ρ H Hin→∀o ob,Qb Hin o=some ob→Qb H (rn ρ o)=some (Qgd ρ ob)∧Qf≤o∧okB ob=true
 |[],_,_,_,h=>by cases h
 |(q,ob')::r,⟨h1,h2,h3,h4⟩,o,ob,h=>by
  rw[Qn] at h
  split at h
  ·rename_i e;cases h;subst e;exact⟨h1,Nat.le_of_ble_eq_true h2,h3⟩
  ·exact QjT h4 o ob h
inductive WN (st:St) (o:Oper):FuncId→List AV→Prop
 |fn (f:FuncId) (xs:Array Operand) (ts:Array TypeId) (as:List AV) (ho:o.op=.call { callee:=.value (.func f),args:=xs,argTypes:=ts }) (ha:evl st xs.toList=some as):WN st o f as
 |val (q:Operand) (f:FuncId) (cap:List AV) (xs:Array Operand) (ts:Array TypeId) (as:List AV) (ho:o.op=.call { callee:=.value q,args:=xs,argTypes:=ts }) (hq:X4 st q=some (.fn f cap)) (ha:evl st xs.toList=some as):WN st o f (as++cap)
theorem Qlp {as:List AV}(hr:Jk E c a st){xs:List Operand}(ha:evl st xs=some as):(xs.map a.eval).length=as.length∧∀(i:Nat) (v:Value) (x:AV),(xs.map a.eval)[i]?=some v→as[i]?=some x→VR c v x:=by
 have he:=Qdu ha
 refine⟨by rw[←he];simp,fun i v x hi hj=>?_⟩;rw[←he,List.getElem?_map] at hj;rw[List.getElem?_map] at hi
 cases hq:xs[i]? with
 |none=>rw[hq] at hi;cases hi
 |some q=>rw[hq] at hi hj;cases hi;cases hj;exact hr.ev q
theorem WN.run {f:FuncId}{as:List AV}(h:WN st o f as)[hf:Xl P f](hr:Jk E c a st):∃vs:List Value,(execOp a.eval o).run P c.w=.ok (.enter f vs.toArray) c.w∧vs.length=as.length∧∀(i:Nat) (v:Value) (x:AV),vs[i]?=some v→as[i]?=some x→VR c v x:=by
 cases h with
 |fn _ xs ts _ ho ha=>
  obtain⟨h1,h2⟩:=Qlp hr ha;refine⟨xs.toList.map a.eval,?_,h1,h2⟩
  have e1:a.eval (.func f)=.func (.func f) #[] #[]:=rfl
  have e2:(xs.toList.map a.eval).toArray=xs.map a.eval:=by apply Array.ext';simp
  simp[execOp,ho,resolve,invoke,e1,Deferred.ofValue,hf.h,e2]
 |val q _ cap xs ts as' ho hq ha=>
  obtain⟨h1,h2⟩:=Qlp hr ha
  have hvq:=hr.ev q
  rw[QZ hq] at hvq
  generalize hvx:a.eval q=vx at hvq
  have key:∃vs:List Value,vx=.func (.func f) #[] vs.toArray∧vs.length=cap.length∧∀(i:Nat) (v:Value) (x:AV),vs[i]?=some v→cap[i]?=some x→VR c v x:=by
   cases hvq with
   |fr _ _ h=>cases h with|fn _ vs _ hl h=>exact⟨vs,rfl,hl,fun i v x h1 h2=>.fr _ _ (h i v x h1 h2)⟩
   |fn _ vs _ hl h=>exact⟨vs,rfl,hl,h⟩
  obtain⟨vs,rfl,hl,hp⟩:=key;refine⟨xs.toList.map a.eval++vs,?_,by simp only[List.length_append,h1,hl],fun i v x hi hj=>?_⟩
  ·have e2:(xs.toList.map a.eval).toArray=xs.map a.eval:=by apply Array.ext';simp
   have e3:(xs.toList.map a.eval++vs).toArray=xs.map a.eval++vs.toArray:=by rw[←e2];simp
   simp[execOp,ho,resolve,invoke,hvx,Deferred.ofValue,hf.h,e3]
  ·rcases Nat.lt_or_ge i as'.length with hlt|hge
   ·rw[List.getElem?_append_left hlt] at hj
    rw[List.getElem?_append_left (by omega)] at hi;exact h2 i v x hi hj
   ·rw[List.getElem?_append_right hge] at hj
    rw[List.getElem?_append_right (by omega),h1] at hi;exact hp _ v x hi hj
theorem Quz {f:FuncId}{bs as:List AV}{Hin Hout:List (Nat×Qj)}{res:AV}(hc:GC P f bs Hin res Hout)(ρ:List (Nat×Nat))(H':List (Nat×Qj))[hf:Xl P f](ho:WN ⟨t,H,nx⟩ o f as)(hab:as=bs.map (KU ρ))(hbig:bs.all QbK=true)
  (hin:Qwl ρ H Hin) (inj:∀o o',(Qb Hin o).isSome=true→(Qb Hin o').isSome=true→rn ρ o=rn ρ o'→o=o')
  (dom:∀o,(Qb Hin o).isSome=(Qb Hout o).isSome) (hout:∀o ob,Qb Hout o=some ob→Qg7 Hin ob=true)
  (h1:∀o ob,Qb Hout o=some ob→Qb H' (rn ρ o)=some (Qgd ρ ob)) (h2:∀q,(∀o,(Qb Hin o).isSome=true→rn ρ o≠q)→Qb H' q=Qb H q)
  (hg:Qo ops ⟨t,H,nx⟩ o=some w) (hw:w=true) (hd:Qi5 E o)
  (h:Q3 P E ops rest Q (St.put ⟨t,H',nx⟩ o.dst res)):Q3 P E ops (o::rest) Q ⟨t,H,nx⟩:=fun c a hr=>by
 subst hw
 refine wpList_step fun K hK=>?_
 rw[Xx hg hr,if_pos rfl];obtain⟨vs,hrun,hvl,hv⟩:=ho.run (P:=P) hr
 unfold Oper.wp
 rw[hrun,Oper.upon_enter]
 subst hab
 refine(hr.gcall hc ρ H' (QjT hin) inj dom hout h1 h2 (by simpa using hvl) hbig (fun i v x hi hj=>hv i v _ hi (by rw[List.getElem?_map,hj];rfl))).mono ?_;rintro e w' ⟨v,c',rfl,rfl,hr',hfr⟩;exact hK _ _ (h c' _ (hr'.put hd (.fr _ _ hfr)))
end
end Go.Proofs.YtnkkokmmeplbgaaGreat
