/-
  The data of this program as trees: names, ticks, entries, va
-/
import Derived.Test.YtnkkokmmeplbgaaGreatA3
import Derived.Shelf.SlSortCmp.NoneTotal
import Derived.Lib.QuietBelow
import Derived.Lib.LazyBuf
import Derived.Laws.Entries
import Derived.Shelf.Sort.Plain
import Derived.Shelf.Spec.SlicesInsertGrow
namespace Go.Proofs.YtnkkokmmeplbgaaGreat
open Go.RowKit
abbrev Nm:=List UInt8
abbrev Tk:=Int×Int
abbrev En:=List Tk×Nm
abbrev i64 (n:Int):AV:=.p (.int .i64 n)
abbrev bl (b:Bool):AV:=.p (.bool b)
abbrev sv (s:Nm):AV:=.p (.string ⟨s.toArray⟩)
def sv1 (s:Nm):List AV:=[sv s]
abbrev Jz (l:List Nm):AV:=.sl (l.map sv1) none
def iv1 (n:Int):List AV:=[i64 n]
abbrev ivs (l:List Int):AV:=.sl (l.map iv1) none
def tkC (t:Tk):List AV:=[i64 t.1,i64 t.2]
abbrev tks (l:List Tk):AV:=.sl (l.map tkC) none
def enC (e:En):List AV:=[tks e.1,sv e.2]
abbrev ens (l:List En):AV:=.sl (l.map enC) none
inductive Qz where
 |mk (N:Int) (nm:List Nm) (ps:List Qz) (es:List En)
def Qz.N:Qz→Int | .mk N _ _ _=>N
def Qz.nm:Qz→List Nm | .mk _ n _ _=>n
def Qz.ps:Qz→List Qz | .mk _ _ p _=>p
def Qz.es:Qz→List En | .mk _ _ _ e=>e
instance:Inhabited Qz:=⟨.mk 0 [] [] []⟩
def Qz.zero:Qz:=.mk 0 [] [] []
theorem Qz.eta (v:Qz):Qz.mk v.N v.nm v.ps v.es=v:=by cases v;rfl
theorem Qz.sizeOf_ps {v x:Qz}(h:x∈v.ps):SizeOf.sizeOf x<SizeOf.sizeOf v:=by
 cases v with|mk N nm ps es=>
 have h:x∈ps:=h
 have:=List.sizeOf_lt_of_mem h
 simp;omega
def Ym (v:Qz):List AV:=[i64 v.N,Jz v.nm,.sl (v.ps.attach.map fun⟨p,_⟩=>Ym p) none,ens v.es]
termination_by v
decreasing_by exact Qz.sizeOf_ps ‹_›
abbrev Ki (l:List Qz):AV:=.sl (l.map Ym) none
abbrev QO (v:Qz):List AV:=[i64 v.N,Jz v.nm,Ki v.ps,ens v.es]
theorem KK (v:Qz):Ym v=QO v:=by
 rw[Ym]
 simp
structure Ru where
 i:List Nm
 t:Nm
def ruC (r:Ru):List AV:=[Jz r.i,sv r.t]
abbrev rus (l:List Ru):AV:=.sl (l.map ruC) none
inductive Qv where
 |mk (k lo hi:Int) (nm:List Nm) (ps:List Qv) (rs:List Ru)
def Qv.k:Qv→Int | .mk k _ _ _ _ _=>k
def Qv.lo:Qv→Int | .mk _ l _ _ _ _=>l
def Qv.hi:Qv→Int | .mk _ _ h _ _ _=>h
def Qv.nm:Qv→List Nm | .mk _ _ _ n _ _=>n
def Qv.ps:Qv→List Qv | .mk _ _ _ _ p _=>p
def Qv.rs:Qv→List Ru | .mk _ _ _ _ _ r=>r
theorem Qv.eta (l:Qv):Qv.mk l.k l.lo l.hi l.nm l.ps l.rs=l:=by cases l;rfl
theorem Qv.sizeOf_ps {v x:Qv}(h:x∈v.ps):SizeOf.sizeOf x<SizeOf.sizeOf v:=by
 cases v with|mk k lo hi nm ps rs=>
 have h:x∈ps:=h
 have:=List.sizeOf_lt_of_mem h
 simp;omega
def Qna (l:Qv):List AV:=[i64 l.k,i64 l.lo,i64 l.hi,Jz l.nm,.sl (l.ps.attach.map fun⟨p,_⟩=>Qna p) none,rus l.rs]
termination_by l
decreasing_by exact Qv.sizeOf_ps ‹_›
abbrev QiL (l:List Qv):AV:=.sl (l.map Qna) none
abbrev Q7 (l:Qv):List AV:=[i64 l.k,i64 l.lo,i64 l.hi,Jz l.nm,QiL l.ps,rus l.rs]
theorem QkT (l:Qv):Qna l=Q7 l:=by
 rw[Qna]
 simp
theorem X9 {l:List Qv}{k:Nat}{x:Qv}(h:l[k]?=some x):(l.map Qna)[k]?=some (Q7 x):=by rw[Qt h,QkT]
theorem Q8 {l:List Qz}{k:Nat}{x:Qz}(h:l[k]?=some x):(l.map Ym)[k]?=some (QO x):=by rw[Qt h,KK]
section
variable {α:Type}{p:α→Bool}{l:List α}{k:Nat}{x:α}
theorem XI (h:l[k]?=some x):l.drop k=x::l.drop (k+1):=by
 obtain⟨h1,h2⟩:=List.getElem?_eq_some_iff.1 h;rw[List.drop_eq_getElem_cons h1,h2]
theorem XO (hg:(l.drop k).all p=l.all p)(h:l[k]?=some x)(hp:p x=true):(l.drop (k+1)).all p=l.all p:=by
 rw[←hg,XI h,List.all_cons,hp,Bool.true_and]
theorem Xe (hg:(l.drop k).all p=l.all p)(h:l[k]?=some x)(hp:p x=false):l.all p=false:=by
 rw[←hg,XI h,List.all_cons,hp,Bool.false_and]
theorem Jf (hg:(l.drop k).all p=l.all p)(h:l.length≤k):l.all p=true:=by
 rw[←hg,List.drop_of_length_le h];rfl
theorem QkK (hg:(l.drop k).any p=l.any p)(h:l[k]?=some x)(hp:p x=false):(l.drop (k+1)).any p=l.any p:=by
 rw[←hg,XI h,List.any_cons,hp,Bool.false_or]
theorem Qhp (hg:(l.drop k).any p=l.any p)(h:l[k]?=some x)(hp:p x=true):l.any p=true:=by
 rw[←hg,XI h,List.any_cons,hp,Bool.true_or]
theorem Qhd (hg:(l.drop k).any p=l.any p)(h:l.length≤k):l.any p=false:=by
 rw[←hg,List.drop_of_length_le h];rfl
theorem Qw (h:k<l.length):∃x,l[k]?=some x:=⟨_,List.getElem?_eq_getElem h⟩
end
open Go.RowKit Go.Sort Go.Shelf
theorem QhV {α:Type}[Inhabited α](enc:α→List Value)(k blk m:Nat)(d:Array α)(os:Array Obj)(w:World){i:Nat}(hi:i<w.heap.size)(hne:i≠blk):(sortWorldK enc k w blk 0 m d os).heap[i]?=w.heap[i]?:=by
 unfold sortWorldK putRowK putRow mapBlock grow Sort.ahead
 simp only
 rw[Array.getElem?_append,if_pos (by simp;omega),Array.getElem?_modify,if_neg (by omega)]
theorem QpM {α:Type}[Inhabited α](enc:α→List Value)(k blk m:Nat)(d:Array α)(os:Array Obj)(w:World){cur:Array Value}{te:TypeId}{fz:Nat×Nat}(hb:w.heap[blk]?=some (.cells cur te fz)):
  (sortWorldK enc k w blk 0 m d os).heap[blk]?=some (.cells (putCells id 0 (flatK enc k d) cur) te fz):=by
 have hi:blk<w.heap.size:=(Array.getElem?_eq_some_iff.1 hb).1
 unfold sortWorldK putRowK putRow mapBlock grow Sort.ahead
 simp only
 rw[Array.getElem?_append,if_pos (by simp;omega),Array.getElem?_modify,if_pos rfl,hb]
 rfl
theorem QiU (F cur:Array Value)(h:F.size≤cur.size):(putCells id 0 F cur).toList.take F.size=F.toList:=by
 apply List.ext_getElem?
 intro i;rw[List.getElem?_take]
 by_cases hi:i<F.size
 ·rw[if_pos hi]
  simp[putCells,hi,show i<cur.size by omega]
 rw[if_neg hi,List.getElem?_eq_none (by simp;omega)]
theorem Qkq {α:Type}{f:α→List AV}{k:Nat}(hfl:∀x,(f x).length=k){i:Nat}(hi:i<k):∀(m:List α) (j:Nat) (x:α),m[j]?=some x→(m.map f).flatten[j*k+i]?=(f x)[i]?
 |[],j,x,h=>by simp at h
 |u::m,0,x,h=>by
  simp at h;subst h;rw[List.map_cons,List.flatten_cons,List.getElem?_append_left (by rw[hfl];omega),Nat.zero_mul,Nat.zero_add]
 |u::m,j+1,x,h=>by
  rw[List.map_cons,List.flatten_cons,List.getElem?_append_right (by rw[hfl,Nat.add_mul];omega),hfl,show(j+1)*k+i-k=j*k+i by rw[Nat.add_mul];omega];exact Qkq hfl hi m j x (by simpa using h)
theorem Bel.grown {w w':World}(h:Bel w w'):∃q os,w'=grow (w.drewN q) os:=by
 obtain⟨p,hp⟩:=regrown_of_below h.toBelow;refine⟨w'.drawn-w.drawn,p.os,?_⟩
 have h2:=h.drawn
 have h3:w'.drawn=p.d:=by rw[hp];rfl
 rw[hp]
 simp only[grow,redrawn,World.drewN]
 congr 1
 show p.d=w.drawn+(p.d-w.drawn)
 omega
section
variable {P:Program}{E:X7}{c:Cx}{a:Act}{st:St}
structure SA (c:Cx) (k:Nat) {α:Type} (f:α→List AV) (l:List α) where
 vs:List Value
 x:α
 len:vs.length=k
 rd:∀(i:Nat) (u:Value) (y:AV),vs[i]?=some u→(f x)[i]?=some y→FR c.w c.S u y
 mem:x∈l
theorem Jk.sort {ρ:Ren}(L:SlLaysF0.n6 P ρ)(hr:Jk E c a st){q:Nat}{te:TypeId}{k:Nat}(hk0:0<k){α:Type}(f:α→List AV)(l:List α)(cf:α→α→Int)(hO:∀ {β:Type} (g:β→α),SWO (fun x y:β=>decide (cf (g x) (g y)<0)))
  (hf:∀x,okE k (f x)=true) (hfz:∀x,fzs (f x)=some (f x)) (aE:∀w,(isAgg (ρ.t 24)).run P w=.ok true w) (zE:∀w,(Go.sizeOf (ρ.t 24)).run P w=.ok k w) (g:FuncId) [hg:Xl P g]
  (hc:∀x∈l,∀y∈l,FC P g [.agg (f x),.agg (f y)] (.p (.int .i64 (cf x y)))) (hq:Qb st.H q=some (.arr te k (l.map f))) {v:Value} (hv:VR c v (.own q l.length)) (hl:l.length<4611686018427387904) :
  Calls P (ρ.f 6) #[v,.func (.func g) #[] #[]] c.w fun e w'=>∃(c':Cx) (l2:List α),e=.returned (.tuple #[])∧c'.w=w'∧l2.Perm l∧l2.Pairwise (fun x y=>0≤cf y x)∧Jk E c' a (st.set q (.arr te k (l2.map f))):=by
 obtain⟨hkq,v0,hv0,hor,hwr⟩:=hr.live q _ hq
 cases hor with
 |arr _ _ _ _ xs hown hek hxs hS=>
 obtain⟨A0,cap0,hA0⟩:=Y3 hown
 have hvv:v=v0:=by
  cases hv with
  |fr _ _ h=>cases h
  |own _ _ _ hK hV=>
   have hn:l.length=(l.map f).length:=by simp
   rw[(hV A0 _ cap0 (by rw[hv0,hA0])).2 hn,hA0]
 subst hvv
 rcases l with _|⟨z0,l0⟩
 ·-- nothing to sort
  rw[hA0];refine Calls.mono (AnyF.slices_SortFunc_none (P:=P) (ρ:=ρ) L A0 cap0 (.func (.func g) #[] #[]) c.w) ?_;rintro e w' ⟨rfl,rfl⟩
  obtain⟨c',e1,e2,hle,e4,e5,hr'⟩:=hr.upd hq (w':=c.w) (S':=c.S) hv0 (.arr te k []) (v':=v) rfl rfl rfl ⟨Nat.le_refl _,Nat.le_refl _⟩ (fun _ _ _=>rfl) (fun _ _ h=>⟨h,rfl⟩) (fun _ _ h=>.inl h) (.inl rfl) (.refl _)
   (fun c' e1 e2 hle=>.arr v te k [] xs (by rw[e1];exact hown) (by simp) (fun i u x hi hx=>by simp at hx) (fun b hb off hs=>hS b hb off (by rw[e2] at hs;exact hs)))
  exact⟨c',[],rfl,e1,List.Perm.refl _,List.Pairwise.nil,hr'⟩
 generalize hll:z0::l0=l at *
 have hpos:0<l.length:=by rw[←hll];simp
 rcases hown.2 with ⟨hvn,h0⟩|⟨blk,cap,cur,hvs,hbg,hblkc,hnc,hcm,hcs,htk⟩
 ·simp at h0;rw[h0] at hpos;simp at hpos
 simp only[List.length_map] at hvs hnc htk
 have hblk:blk<c.w.heap.size:=(Array.getElem?_eq_some_iff.1 hblkc).1
 have hxl:xs.length=l.length*k:=by rw[hown.1];simp
 have hfl:∀x,(f x).length=k:=fun x=>by have:=hf x;simp only[okE,Bool.and_eq_true,beq_iff_eq] at this;exact this.1
 have flat:∀(j i:Nat) (x:α) (y:AV),l[j]?=some x→(f x)[i]?=some y→i<k∧(l.map f).flatten[j*k+i]?=some y:=fun j i x y hj hi=>by
  have hik:i<k:=by rw[←hfl x];exact(List.getElem?_eq_some_iff.1 hi).1
  exact⟨hik,by rw[Qkq hfl hik l j x hj];exact hi⟩
 have mk:∀j (hj:j<l.length),∃p:SA c k f l,p.vs=(xs.drop (j*k)).take k∧p.x=l[j]:=fun j hj=>by
  have hjk:(j+1)*k≤l.length*k:=Nat.mul_le_mul_right k hj
  rw[Nat.add_mul,Nat.one_mul] at hjk;refine⟨⟨(xs.drop (j*k)).take k,l[j],by simp;omega,fun i u y hi hy=>?_,List.getElem_mem hj⟩,rfl,rfl⟩;obtain⟨hik,h2⟩:=flat j i l[j] y (List.getElem?_eq_getElem hj) hy;rw[List.getElem?_take,if_pos hik,List.getElem?_drop] at hi;exact(hxs _ u y hi h2).fz1 ((Wa (hfz l[j])).2 i y y hy hy)
 obtain⟨p0,-,-⟩:=mk 0 hpos
 haveI:Inhabited (SA c k f l):=⟨p0⟩
 obtain⟨d,hds,hdg⟩:∃d:Array (SA c k f l),d.size=l.length∧∀j (hj:j<l.length),(d[j]!).vs=(xs.drop (j*k)).take k∧(d[j]!).x=l[j]:=by
  refine⟨Array.ofFn (n:=l.length) (fun i=>(mk i.1 i.2).choose),by simp,fun j hj=>?_⟩;rw[getElem!_pos _ j (by simpa using hj),Array.getElem_ofFn];exact(mk j hj).choose_spec
 have hH:HoldsK (SA.vs (c:=c) (k:=k) (f:=f) (l:=l)) k c.w blk 0 d:=fun t ht=>by
  rw[size_flatK,hds] at ht
  have hj:t / k<l.length:=by rw[Nat.div_lt_iff_lt_mul hk0];exact ht
  rw[get_flatK _ _ _ _ (by rw[hds];exact ht),(hdg _ hj).1]
  have hm:t % k<k:=Nat.mod_lt _ hk0
  have he:t / k*k+t % k=t:=by rw[Nat.mul_comm];exact Nat.div_add_mod t k
  have hx:((xs.drop (t / k*k)).take k)[t % k]?=xs[t]?:=by rw[List.getElem?_take,if_pos hm,List.getElem?_drop,he]
  have hxt:xs[t]?=some xs[t]:=List.getElem?_eq_getElem (by rw[hxl];exact ht)
  refine⟨?_,by simp[World.frozen?,hblkc]⟩
  have hlt:t % k<((xs.drop (t / k*k)).take k).length:=by
   rcases Nat.lt_or_ge (t % k) ((xs.drop (t / k*k)).take k).length with h|h
   ·exact h
   rw[List.getElem?_eq_none h,hxt] at hx;cases hx
  obtain⟨g',cp,hg',hcell⟩:=Qa7 hown hxt
  have:g'=blk:=by rw[hvs] at hg';have:=(Value.slice.inj hg').1;simpa using this.symm
  subst this
  rw[Nat.zero_add,hcell]
  show some xs[t]=some (((xs.drop (t / k*k)).take k)[t % k]!)
  rw[getElem!_pos ((xs.drop (t / k*k)).take k) (t % k) hlt];rw[List.getElem?_eq_getElem hlt,hxt] at hx;exact hx.symm
 have other:∀(m:Nat) (dk:Array (SA c k f l)) (os:Array Obj) (b off:Nat),c.S b off→(sortWorldK SA.vs k c.w blk 0 m dk os).cell? ⟨b,off,none⟩=c.w.cell? ⟨b,off,none⟩:=fun m dk os b off hs=>
  World.cell?_of_block (a:=⟨b,off,none⟩) (QhV _ _ _ _ _ _ _ (hr.Ssz b off hs) (fun e=>hS blk (by rw[hvs];rfl) off (e▸hs)))
 have hcmp:CmpLays P g #[] (SA.vs (c:=c) (k:=k) (f:=f) (l:=l)) k (fun x y=>cf x.x y.x) blk 0 d.size c.w:=fun m os dk _ x y=>by
  have hsz:=size_sortWorldK_c (SA.vs (c:=c) (k:=k) (f:=f) (l:=l)) k c.w blk 0 m dk os
  have rdx:∀z:SA c k f l,FR (sortWorldK SA.vs k c.w blk 0 m dk os) c.S (.agg z.vs.toArray) (.agg (f z.x)):=fun z=>
   .agg z.vs (f z.x) (by rw[z.len,hfl]) (fun i u y hi hy=>(z.rd i u y hi hy).mono (fun b off hs=>⟨hs,other m dk os b off hs⟩))
  refine(hc x.x x.mem y.x y.mem (sortWorldK SA.vs k c.w blk 0 m dk os) c.S [.agg x.vs.toArray,.agg y.vs.toArray] (fun b off hs=>Nat.lt_of_lt_of_le (hr.Ssz b off hs) hsz) ⟨rfl,fun i v y' hi hy'=>?_⟩).mono ?_
  ·match i,hi,hy' with
   |0,hi,hy'=>simp at hi hy';subst hi hy';exact rdx x
   |1,hi,hy'=>simp at hi hy';subst hi hy';exact rdx y
   |i+2,hi,hy'=>simp at hi
  rintro e w' ⟨v',S',rfl,hbel,-,-,hfr⟩
  cases hfr
  exact⟨rfl,hbel.grown⟩
 have hone:∀(x:SA c k f l),∀u∈x.vs,u.oneCell'=true:=fun x u hu=>by
  obtain⟨i,hi⟩:=List.getElem?_of_mem hu
  have hik:i<(f x.x).length:=by rw[hfl,←x.len];exact(List.getElem?_eq_some_iff.1 hi).1
  have h1:=hf x.x
  simp only[okE,Bool.and_eq_true] at h1
  exact(x.rd i u _ hi (List.getElem?_eq_getElem hik)).one (List.all_eq_true.1 h1.2 _ (List.getElem_mem hik))
 have hSo:=AnyQ.slices_SortFunc (P:=P) (ρ:=ρ) L k aE zE (SA.vs (c:=c) (k:=k) (f:=f) (l:=l)) (fun x=>x.len) hone (fun x y=>cf x.x y.x) (hO (fun x:SA c k f l=>x.x)) g #[] blk 0 cap d c.w hg.h hcmp hH hblk (by rw[hds];exact hl)
 rw[hds,←hvs] at hSo;refine hSo.mono ?_;rintro e w' ⟨rfl,d',n',os,hp,hsd,rfl⟩;obtain⟨hz,-,hperm⟩:=hp
 have hd's:d'.size=l.length:=by rw[hz,hds]
 have hsz:=size_sortWorldK_c (SA.vs (c:=c) (k:=k) (f:=f) (l:=l)) k c.w blk 0 n' d' os
 have hH':=holdsK_sortWorldK_c (SA.vs (c:=c) (k:=k) (f:=f) (l:=l)) k c.w blk 0 d d' n' os hH hblk hz
 have hmap:d.toList.map (·.x)=l:=by
  apply List.ext_getElem (by simp[hds])
  intro i h1 h2
  have:=(hdg i h2).2
  rw[getElem!_pos d i (by omega)] at this
  simp[this]
 have hFs:(flatK (SA.vs (c:=c) (k:=k) (f:=f) (l:=l)) k d').size=l.length*k:=by rw[size_flatK,hd's]
 have hcur:l.length*k≤cur.size:=by rw[hcs];exact Nat.mul_le_mul_right k hnc
 obtain⟨c',e1,e2,hle,e4,e5,hr'⟩:=hr.upd hq (w':=sortWorldK SA.vs k c.w blk 0 n' d' os) (S':=c.S) hv0 (.arr te k ((d'.toList.map (·.x)).map f)) (v':=v) rfl rfl rfl ⟨hsz,Nat.le_add_right _ _⟩
  (fun b hb hne=>QhV _ _ _ _ _ _ _ hb (fun e=>hne (by rw[hvs,e];rfl)))
  (fun b off hs=>⟨hs,other n' d' os b off hs⟩) (fun _ _ h=>.inl h) (.inl rfl) (.refl _)
  (fun c' e1 e2 hle=>.arr v te k _ (flatK SA.vs k d').toList (by
    rw[e1];refine⟨by simp[hFs,hd's],.inr ⟨blk,cap,putCells id 0 (flatK SA.vs k d') cur,by rw[hvs];simp[hd's],hbg,QpM _ _ _ _ _ _ _ hblkc,by simpa [hd's] using hnc,hcm,by simp[putCells,hcs],?_⟩⟩
    have:=QiU (flatK (SA.vs (c:=c) (k:=k) (f:=f) (l:=l)) k d') cur (by rw[hFs];exact hcur)
    rw[hFs] at this
    simpa [hd's] using this)
   (fun e he=>by
    obtain⟨x,-,rfl⟩:=List.mem_map.1 he
    exact hfl x)
   (fun i u x hi hx=>by
    have hil:i<l.length*k:=by rw[←hFs];simpa using (List.getElem?_eq_some_iff.1 hi).1
    have hj:i / k<l.length:=by rw[Nat.div_lt_iff_lt_mul hk0];exact hil
    have hm:i % k<k:=Nat.mod_lt _ hk0
    have he:i / k*k+i % k=i:=by rw[Nat.mul_comm];exact Nat.div_add_mod i k
    have hu:u=(d'[i / k]!.vs)[i % k]! :=by
     have h1:=get_flatK (SA.vs (c:=c) (k:=k) (f:=f) (l:=l)) k d' i (by rw[hd's];exact hil)
     rw[getElem!_pos _ i (by rw[hFs];exact hil)] at h1;rw[←h1]
     have:(flatK (SA.vs (c:=c) (k:=k) (f:=f) (l:=l)) k d').toList[i]?=some ((flatK (SA.vs (c:=c) (k:=k) (f:=f) (l:=l)) k d')[i]'(by rw[hFs];exact hil)):=by simp[hFs,hil]
     rw[hi] at this;exact Option.some.inj this
    have hy:(f d'[i / k]!.x)[i % k]?=some x:=by
     have hfi:(f d'[i / k]!.x)[i % k]?=some ((f d'[i / k]!.x)[i % k]'(by rw[hfl];exact hm)):=List.getElem?_eq_getElem (by rw[hfl];exact hm)
     have key:((d'.toList.map (·.x)).map f).flatten[i / k*k+i % k]?=(f d'[i / k]!.x)[i % k]?:=by
      exact Qkq hfl hm _ _ _ (by rw[List.getElem?_map,Array.getElem?_toList,getElem!_pos d' (i / k) (by omega),Array.getElem?_eq_getElem (by omega)];rfl)
     rw[he] at key
     rw[←key];exact hx
    have hvu:(d'[i / k]!.vs)[i % k]?=some u:=by
     rw[hu,getElem!_pos (d'[i / k]!).vs (i % k) (by rw[(d'[i / k]!).len];exact hm)];exact List.getElem?_eq_getElem _
    exact .fr _ _ (((d'[i / k]!).rd _ u x hvu hy).mono hle.S))
   (fun b hb off hs=>hS b hb off (by rw[e2] at hs;exact hs)))
 refine⟨c',d'.toList.map (·.x),rfl,e1,?_,?_,hr'⟩
 ·have a1:d'.extract 0 l.length=d':=by rw[←hd's];simp
  have a2:d.extract 0 l.length=d:=by rw[←hds];simp
  rw[a1,a2] at hperm
  have:=hperm.map (·.x)
  rw[hmap] at this;exact this
 rw[List.pairwise_iff_getElem];intro i j hi hj hij
 have hi':i<d'.size:=by simpa using hi
 have hj':j<d'.size:=by simpa using hj
 have:=hsd i j (Nat.zero_le _) hij (by omega)
 rw[getElem!_pos d' i hi',getElem!_pos d' j hj'] at this
 simp only[ltOf,decide_eq_false_iff_not] at this
 simp
 omega
end
open Go.RowKit Go.Sort Go.Shelf
section
variable {P:Program}{E:X7}{Q:Exit→St→Prop}{ops:Array Oper}{o:Oper}{rest:List Oper}{t:List (Nat×AV)}{H:List (Nat×Qj)}{nx N d:Nat}{w:Bool}
theorem Qwz (hN:E.N=N){ρ:Ren}(L:SlLaysF0.n6 P ρ){sf:FuncId}(hsf:ρ.f 6=sf)[hSF:Xl P sf]{k:Nat}(hk0:0<k){α:Type}(f:α→List AV)(l:List α)(cf:α→α→Int)(hO:∀ {β:Type} (g:β→α),SWO (fun x y:β=>decide (cf (g x) (g y)<0)))
  (hf:∀x,okE k (f x)=true) (hfz:∀x,fzs (f x)=some (f x)) (aE:∀w,(isAgg (ρ.t 24)).run P w=.ok true w) (zE:∀w,(Go.sizeOf (ρ.t 24)).run P w=.ok k w) {g:FuncId} [hg:Xl P g]
  (hc:∀x∈l,∀y∈l,FC P g [.agg (f x),.agg (f y)] (.p (.int .i64 (cf x y)))) {sx:Operand} {ts:Array TypeId} (ho:o.op=.call { callee:=.value (.func sf),args := #[sx,.func g],argTypes:=ts })
  {q n:Nat} (hs:X4 ⟨t,H,nx⟩ sx=some (.own q n)) (hn:n=l.length) {te:TypeId} (hq:Qb H q=some (.arr te k (l.map f))) (hl:l.length<4611686018427387904)
  (hw1:Qo ops ⟨t,H,nx⟩ o=some w) (hw:w=true) (hd:o.dst=some d) (hdN:Nat.blt d N=true)
  (h:∀l2:List α,l2.Perm l→l2.Pairwise (fun x y=>0≤cf y x)→Q3 P E ops rest Q ⟨(d,.p (.tuple #[]))::t,(q,.arr te k (l2.map f))::H,nx⟩):Q3 P E ops (o::rest) Q ⟨t,H,nx⟩:=fun c a hr=>by
 subst hw hn hsf
 refine wpList_step fun K hK=>?_
 rw[Xx hw1 hr,if_pos rfl]
 have hv:=hr.ev sx
 rw[QZ hs] at hv
 have hrun:(execOp a.eval o).run P c.w=.ok (.enter (ρ.f 6) #[a.eval sx,.func (.func g) #[] #[]]) c.w:=by
  have e1:a.eval (.func (ρ.f 6))=.func (.func (ρ.f 6)) #[] #[]:=rfl
  have e2:a.eval (.func g)=.func (.func g) #[] #[]:=rfl
  simp[execOp,ho,resolve,invoke,e1,e2,Deferred.ofValue,hSF.h]
 unfold Oper.wp
 rw[hrun,Oper.upon_enter];refine(hr.sort L hk0 f l cf hO hf hfz aE zE g hc hq hv hl).mono ?_;rintro e w' ⟨c',l2,rfl,rfl,hp,hs2,hr'⟩
 have hput:=hr'.put (d:=o.dst) (x:=.p (.tuple #[])) (v:=.tuple #[]) (dlt hN hd hdN) (.fr _ _ (.p _))
 refine hK _ _ (h l2 hp hs2 c' _ ?_)
 rw[hd] at hput ⊢
 exact hput
end
section
variable {P:Program}{E:X7}{c:Cx}{a:Act}{st:St}
theorem Jk.newF (h:Jk E c a st)(hB:st.nx<Qf){w':World}{S':Nat→Nat→Prop}(hw:Bel c.w w')(v:Value)(ob:Qj)(hS:∀b o,c.S b o→S' b o)(hS':∀b o,S' b o→c.S b o∨(c.w.heap.size≤b∧b<w'.heap.size))
  (hor:∀c':Cx,c'.w=w'→c'.S=S'→c.le c'→OR c' v ob) (hb:∀b,Xd v=some b→c.w.heap.size≤b) :
  ∃c':Cx,c'.w=w'∧c'.S=S'∧c.le c'∧c'.K st.nx∧c'.V st.nx=some v∧Jk E c' a { st.set st.nx ob with nx:=st.nx+1 }:=by
 obtain⟨V',hV'⟩:∃V':Nat→Option Value,V'=fun o=>if o=st.nx then some v else c.V o:=⟨_,rfl⟩
 have hVn:V' st.nx=some v:=by rw[hV'];simp
 have hVo:∀o,o≠st.nx→V' o=c.V o:=fun o ho=>by rw[hV'];simp[ho]
 have hnK:¬c.K st.nx:=fun hk=>by
  rcases h.ids _ hk with h1|h1
  ·omega
  have:=E.kb _ h1;omega
 have hc:c.le ⟨w',S',V',fun o=>c.K o∨o=st.nx⟩:=⟨fun b o hs=>⟨hS b o hs,QaI hw (h.Ssz b o hs)⟩,fun _ h=>.inl h,
  fun o hk=>.inl (hVo o (fun e=>hnK (e▸hk)))⟩
 have hsz:=hw.size
 refine⟨⟨w',S',V',fun o=>c.K o∨o=st.nx⟩,rfl,rfl,hc,.inr rfl,hVn,?_⟩
 exact {
  defers:=h.defers,size:=h.size,tmps:=fun i=>(h.tmps i).mono hc
  live:=fun o ob' ho=>by
   have ho':(if o=st.nx then some ob else Qb st.H o)=some ob':=(Qn _ _ _ _).symm.trans ho
   by_cases e:o=st.nx
   ·rw[if_pos e] at ho'
    cases ho'
    subst e
    exact⟨.inr rfl,v,hVn,hor _ rfl rfl hc,fun b hb'=>E.new b (Nat.le_trans h.grown (hb b hb'))⟩
   rw[if_neg e] at ho';obtain⟨hk,u,hu,hor',hwr⟩:=h.live o ob' ho'
   exact⟨.inl hk,u,(hVo o e).trans hu,hor'.ext hw hc (fun b hb2 off hs=>by
    rcases hS' b off hs with h1|⟨h1,_⟩
    ·exact h1
    have:=hor'.lt hb2;omega),hwr⟩
  dead:=fun o ho=>by
   have ho':(if o=st.nx then some ob else Qb st.H o)=none:=(Qn _ _ _ _).symm.trans ho
   by_cases e:o=st.nx
   ·rw[if_pos e] at ho';cases ho'
   rw[if_neg e] at ho';exact(hVo o e).trans (h.dead o ho')
  apart:=fun o o' u u' b hu hu' hb1 hb2=>by
   have old:∀o u,o≠st.nx→V' o=some u→∀b,Xd u=some b→b<c.w.heap.size:=fun o u e hu b hb'=>by
    have hu2:=(hVo o e).symm.trans hu
    cases hl:Qb st.H o with
    |none=>rw[h.dead o hl] at hu2;cases hu2
    |some ob'=>
     obtain⟨_,u',hu',hor',_⟩:=h.live o ob' hl;rw[hu2] at hu'
     cases hu'
     exact hor'.lt hb'
   by_cases e:o=st.nx<;>by_cases e':o'=st.nx
   ·rw[e,e']
   ·subst e
    have hu:V' st.nx=some u:=hu
    rw[hVn] at hu;cases hu
    have:=hb b hb1
    have:=old o' u' e' hu' b hb2
    omega
   ·subst e'
    have hu':V' st.nx=some u':=hu'
    rw[hVn] at hu';cases hu'
    have:=hb b hb2
    have:=old o u e hu b hb1
    omega
   exact h.apart o o' u u' b ((hVo o e).symm.trans hu) ((hVo o' e').symm.trans hu') hb1 hb2
  ids:=fun o hk=>by
   rcases hk with hk|hk
   ·rcases h.ids o hk with h1|h1
    ·exact .inl (Nat.lt_succ_of_lt h1)
    exact .inr h1
   exact .inl (by show o<st.nx+1;omega)
  nxB:=hB
  kbs:=fun o hk=>.inl (h.kbs o hk)
  V0:=fun o hk=>by
   have hne:o≠st.nx:=fun e=>by have:=E.kb o hk;omega
   show Qa9 (E.V0 o) (V' o)
   rw[hVo o hne];exact h.V0 o hk
  Ssz:=fun b off hs=>by
   rcases hS' b off hs with h1|⟨_,h1⟩
   ·exact Nat.lt_of_lt_of_le (h.Ssz b off h1) hsz
   exact h1
  os:=hw.os.trans h.os,tape:=hw.tape.trans h.tape,output:=hw.output.trans h.output
  drawn:=Nat.le_trans h.drawn hw.drawn
  grown:=Nat.le_trans h.grown hsz
  frame:=fun b hb' hn=>(hw.block b (Nat.lt_of_lt_of_le hb' h.grown)).trans (h.frame b hb' hn)
  S0:=fun b off hs=>⟨hS _ _ (h.S0 b off hs).1,(QaI hw (h.Ssz _ _ (h.S0 b off hs).1)).trans (h.S0 b off hs).2⟩
  Snew:=fun b off hs=>by
   rcases hS' b off hs with h1|⟨h1,_⟩
   ·exact h.Snew b off h1
   ·exact .inr (E.new b (Nat.le_trans h.grown h1)) }
def FO (P:Program)(f:FuncId)(args:List AV)(te:TypeId)(k:Nat)(es:List (List AV)):Prop:=
 ∀(w:World) (S:Nat→Nat→Prop) (vs:List Value),(∀b o,S b o→b<w.heap.size)→FRs w S vs args →
  Calls P f vs.toArray w fun e w'=>∃v S' xs,e=.returned v∧Bel w w'∧(∀b o,S b o→S' b o)∧(∀b o,S' b o→S b o∨(w.heap.size≤b∧b<w'.heap.size)) ∧
   w'.ownsRow 0 te k v es.length xs∧(∀b,Xd v=some b→w.heap.size≤b)∧(∀e∈es,e.length=k)∧(∀(i:Nat) (u:Value) (x:AV),xs[i]?=some u→es.flatten[i]?=some x→FR w' S' u x)∧(∀b,Xd v=some b→∀off,¬S' b off)
def retO (i:Nat)(te:TypeId)(k:Nat)(es:List (List AV)):Exit→St→Prop
 | .normal,st | .ret,st=>∃q n,Qb st.t i=some (.own q n)∧n=es.length∧Qb st.H q=some (.arr te k es)∧∀e∈es,fzs e=some e
 |_,_=>False
variable {Q:Exit→St→Prop}{ops:Array Oper}{o:Oper}{rest:List Oper}{t:List (Nat×AV)}{H:List (Nat×Qj)}{nx N d:Nat}{w:Bool}
theorem QvA (hN:E.N=N)(hB:Nat.blt nx Qf=true){f:FuncId}{bs:List AV}{te:TypeId}{k:Nat}{es:List (List AV)}(hc:FO P f bs te k es)[hf:Xl P f]{az:List AV}(ho:WN ⟨t,H,nx⟩ o f az)(hb:fzl az=some bs)
  (hg:Qo ops ⟨t,H,nx⟩ o=some w) (hw:w=true) (hd:o.dst=some d) (hdN:Nat.blt d N=true)
  (h:Q3 P E ops rest Q ⟨(d,.own nx es.length)::t,(nx,.arr te k es)::H,nx+1⟩):Q3 P E ops (o::rest) Q ⟨t,H,nx⟩:=fun c a hr=>by
 subst hw
 refine wpList_step fun K hK=>?_
 rw[Xx hg hr,if_pos rfl];obtain⟨vs,hrun,hvl,hv⟩:=ho.run (P:=P) hr
 unfold Oper.wp
 rw[hrun,Oper.upon_enter];obtain⟨h3,h4⟩:=QcD hb
 have hfrs:FRs c.w c.S vs bs:=by
  refine⟨by rw[hvl,h3],fun i v y hi hj=>?_⟩
  have hix:i<az.length:=by have:=(List.getElem?_eq_some_iff.1 hj).1;omega
  exact(hv i v _ hi (List.getElem?_eq_getElem hix)).fz (h4 i _ y (List.getElem?_eq_getElem hix) hj)
 refine(hc c.w c.S vs hr.Ssz hfrs).mono ?_;rintro e w' ⟨v,S',xs,rfl,hbel,hS,hS',hown,hnew,hek,hx,hno⟩;obtain⟨c',e1,e2,hle,e4,e5,hr'⟩:=hr.newF (Nat.le_of_ble_eq_true hB) hbel v (.arr te k es) hS hS' (fun c' e1 e2 hle=>.arr v te k es xs (by rw[e1];exact hown) hek (fun i u x hi hx'=>.fr _ _ (by rw[e1,e2];exact hx i u x hi hx')) (fun b hb off hs=>hno b hb off (by rw[e2] at hs;exact hs))) hnew;obtain⟨A0,cap0,hA0⟩:=Y3 hown
 have hvr:VR c' v (.own nx es.length):=.own _ _ _ e4 (fun A n' cap hh=>by
  rw[show c'.V nx=some v from e5,hA0] at hh
  cases hh
  exact⟨Nat.le_refl _,fun _=>hA0⟩)
 have hput:=hr'.put (d:=o.dst) (x:=.own nx es.length) (v:=v) (dlt hN hd hdN) hvr
 subst e1
 refine hK _ _ (h c' _ ?_)
 rw[hd] at hput ⊢
 exact hput
end
theorem Qjb {P:Program}{f:FuncId}{fn:Func}{code:Code}{args:List AV}{te:TypeId}{k:Nat}{es:List (List AV)}(r:Nat)(hf:P.funcs[f]?=some fn)(hb:fn.body=some code)(hres:fn.results=([r].map ResultVar.tmp).toArray)(N:Nat)(hN:fn.ntmps=N)(hle:args.length≤N)
  (h:∀E:X7,E.N=N→Y1 P E code (retO r te k es) ⟨Qao 0 args,[],0⟩):FO P f args te k es:=by
 intro w S vs hS hv
 have hvl:vs.length=args.length:=hv.1
 refine calls_of_wp hf hb ?_
 have hr:Jk (X7.at_ N w S) ⟨w,S,fun _=>none,fun _=>False⟩ { tmps:=vs.toArray++Array.replicate (fn.ntmps-vs.toArray.size) undef,defers:=[] } ⟨Qao 0 args,[],0⟩:={
  defers:=rfl
  size:=by show(vs.toArray++Array.replicate (fn.ntmps-vs.toArray.size) undef).size=N;simp;omega
  tmps:=fun i=>by
   show VR _ ((vs.toArray++Array.replicate (fn.ntmps-vs.toArray.size) undef).getD i undef) ((Qb (Qao 0 args) i).getD .bot)
   rw[Wp]
   simp only[Nat.zero_le,if_true,Nat.sub_zero]
   rcases Nat.lt_or_ge i args.length with hlt|hge
   ·have hlt':i<vs.length:=by omega
    have e:(vs.toArray++Array.replicate (fn.ntmps-vs.toArray.size) undef).getD i undef=vs[i]:=by
     simp[Array.getElem?_append,hlt']
    rw[e,List.getElem?_eq_getElem hlt];exact .fr _ _ (hv.2 i _ _ (List.getElem?_eq_getElem hlt') (List.getElem?_eq_getElem hlt))
   rw[List.getElem?_eq_none hge];exact .fr _ _ (.bot _)
  live:=fun o ob h=>by cases h
  dead:=fun _ _=>rfl
  apart:=fun o o' v v' b h=>by cases h
  ids:=fun _ h=>h.elim,nxB:=Nat.zero_le _,kbs:=fun _ h=>h.elim,V0:=fun _ h=>h.elim
  Ssz:=hS
  os:=rfl,tape:=rfl,output:=rfl,drawn:=Nat.le_refl _,grown:=Nat.le_refl _
  frame:=fun _ _ _=>rfl
  S0:=fun _ _ h=>⟨h,rfl⟩
  Snew:=fun _ _ h=>.inl h }
 refine wp_mono (h (X7.at_ N w S) rfl _ _ hr) ?_;rintro e a' w' ⟨c,st,rfl,hr',hq⟩
 have fin:(∃q n,Qb st.t r=some (.own q n)∧n=es.length∧Qb st.H q=some (.arr te k es)∧∀e∈es,fzs e=some e) →
   a'.defers=[]∧∃v,(results fn a'.tmps).run P c.w=.ok v c.w∧∃v' S' xs,Ending.returned v=.returned v'∧Bel w c.w∧(∀b o,S b o→S' b o)∧(∀b o,S' b o→S b o∨(w.heap.size≤b∧b<c.w.heap.size)) ∧
    c.w.ownsRow 0 te k v' es.length xs∧(∀b,Xd v'=some b→w.heap.size≤b)∧(∀e∈es,e.length=k)∧(∀(i:Nat) (u:Value) (x:AV),xs[i]?=some u→es.flatten[i]?=some x→FR c.w S' u x)∧(∀b,Xd v'=some b→∀off,¬S' b off):=by
  rintro⟨q,n,h1,rfl,h2,h3⟩
  have hv:=hr'.tmps r
  rw[show st.get r=.own q es.length by simp[St.get,h1]] at hv;obtain⟨hKq,vq,hVq,hor,hwr⟩:=hr'.live q _ h2
  cases hor with
  |arr _ _ _ _ xs hown hek hx hno=>
   obtain⟨A0,cap0,hA0⟩:=Y3 hown
   have hvq:a'.tmps.getD r undef=vq:=by
    generalize a'.tmps.getD r undef=v at hv
    cases hv with
    |fr _ _ h=>cases h
    |own _ _ _ hK hV=>rw[(hV A0 _ cap0 (by rw[hVq,hA0])).2 rfl,hA0]
   refine⟨hr'.defers,_,W9 [r] hres a'.tmps c.w,vq,c.S,xs,by rw[←hvq];rfl,⟨⟨hr'.os,hr'.tape,hr'.output,hr'.grown,fun b hb=>hr'.frame b hb (Nat.not_le.2 hb)⟩,hr'.drawn⟩,fun b o h=>(hr'.S0 b o h).1,fun b o h=>?_,hown,fun b hb=>hwr b hb,hek,fun i u y hi hy=>?_,hno⟩
   ·rcases hr'.Snew b o h with h1|h1
    ·exact .inl h1
    exact .inr ⟨h1,hr'.Ssz b o h⟩
   have hfz:∀x∈es.flatten,x.fz1=some x:=fun x hx=>by
    obtain⟨e,he,hxe⟩:=List.mem_flatten.1 hx;obtain⟨m,hm⟩:=List.getElem?_of_mem hxe;exact(Wa (h3 e he)).2 m x x hm hm
   exact(hx i u y hi hy).fz1 (hfz y (List.mem_of_getElem? hy))
 cases e with
 |normal=>exact fin hq
 |ret=>exact fin hq
 |_=>exact hq.elim
section
variable {P:Program}{E:X7}{Q:Exit→St→Prop}{ops:Array Oper}{o:Oper}{rest:List Oper}{t:List (Nat×AV)}{H:List (Nat×Qj)}{nx N d:Nat}{w:Bool}
theorem QcT (hN:E.N=N)(hB:Nat.blt nx Qf=true){tt e:TypeId}{n:Nat}[hT:JJ P tt e n](ho:o.op=.buildSlice tt 0 #[])
  (hg:Qo ops ⟨t,H,nx⟩ o=some w) (hw:w=true) (hd:o.dst=some d) (hdN:Nat.blt d N=true)
  (h:Q3 P E ops rest Q ⟨(d,.own nx 0)::t,(nx,.arr e n [])::H,nx+1⟩):Q3 P E ops (o::rest) Q ⟨t,H,nx⟩:=by
 subst hw
 refine Qbr (.own nx 0) ⟨t,(nx,.arr e n [])::H,nx+1⟩ hg (dlt hN hd hdN) (fun c a hr=>?_) (by rw[hd];exact h);obtain⟨i,hi,hsz⟩:=JD hT.size
 have hs1:(sizeOf e).run P c.w=.ok i.size c.w:=by simp[sizeOf,typeInfo,hi]
 have hrun:(execOp a.eval o).run P c.w=.ok (.value (.slice (some ⟨c.w.heap.size,0,none⟩) 0 0)) (c.w.alloc (.cells #[] e)):=by
  simp[execOp,ho,Sem.run_bind,Instr.buildSlice,run_underlying (Xq hT.h),Result.andThen_ok,hs1,newRow,Instr.fill]
  congr 2;apply Array.ext<;>simp
 have hown:(c.w.alloc (.cells #[] e)).ownsRow 0 e n (.slice (some ⟨c.w.heap.size,0,none⟩) 0 0) 0 []:=
  ⟨by simp,.inr ⟨c.w.heap.size,0,#[],rfl,Nat.zero_le _,WB _ _ _,Nat.le_refl _,Nat.zero_le _,by simp,by simp⟩⟩
 obtain⟨c',e1,e2,hle,e4,e5,hr'⟩:=hr.new (Nat.le_of_ble_eq_true hB) (KA c.w (.cells #[] e)) (.slice (some ⟨c.w.heap.size,0,none⟩) 0 0) (.arr e n [])
  (fun c' e1 e2 hle=>.arr _ e n [] [] (by rw[e1];exact hown) (by simp) (by simp) (fun b hb off hs=>by
   rw[e2] at hs
   have:c.w.heap.size=b:=by simpa [Xd] using hb
   subst this
   exact Nat.lt_irrefl _ (hr.Ssz _ _ hs))) (fun b hb=>by
   have:c.w.heap.size=b:=by simpa [Xd] using hb
   omega)
 refine⟨_,c',by rw[e1];exact hrun,hr',.own _ _ _ e4 (fun A n' cap hh=>?_)⟩;rw[show c'.V nx=some _ from e5] at hh
 cases hh
 exact⟨Nat.le_refl _,fun _=>rfl⟩
theorem QrI {c:Cx}{v:Value}{es:List (List AV)}{tk:Option Nat}(hv:VR c v (.sl es tk)):∃A n cc,v=.slice A n cc∧(es≠[]→A.isNone=false):=by
 have hf:FR c.w c.S v (.sl es none):=by
  cases hv with
  |fr _ _ h=>cases h with|sl A n cc k _ b off f hl hn hc hA hk hcell h=>exact .sl A n cc k es b off f hl hn hc hA hk hcell h
  |tok _ _ _ h _ _=>exact h
 cases hf with
 |sl A n cc k _ b off f hl hn hc hA hk hcell h=>
  refine⟨A,n,cc,rfl,fun hne=>?_⟩
  have:0<n:=by rw[←hl];exact List.length_pos_iff.2 hne
  rw[hA this];rfl
theorem QsI (hN:E.N=N){tt ty:TypeId}{x y:Operand}{e:TypeId}{n:Nat}[hT:JJ P tt e n](ho:o.op=.binOp .eql tt x y ty){es:List (List AV)}{tk:Option Nat}(hx:X4 ⟨t,H,nx⟩ x=some (.sl es tk))(hy:X4 ⟨t,H,nx⟩ y=some (.p (.slice none 0 0)))
  (hg:Qo ops ⟨t,H,nx⟩ o=some w) (hw:w=true) (hd:o.dst=some d) (hdN:Nat.blt d N=true)
  (h:∀b:Bool,(es≠[]→b=false)→Q3 P E ops rest Q ⟨(d,.p (.bool b))::t,H,nx⟩):Q3 P E ops (o::rest) Q ⟨t,H,nx⟩:=fun c a hr=>by
 subst hw
 have hv:=hr.ev x
 rw[QZ hx] at hv
 have hu:=hr.ev y
 rw[QZ hy] at hu;obtain⟨A,m,cc,hA,hne⟩:=QrI hv
 have hte:=Xq hT.h
 have hrun:(execOp a.eval o).run P c.w=.ok (.value (.bool A.isNone)) c.w:=by
  have e1:(binOp .eql tt (a.eval x) (a.eval y)).run P c.w=.ok (.bool A.isNone) c.w:=by
   rw[hA,hu.p_inv];exact by first|exact Lib.run_eql_slice_nil c.w tt e A m cc 0 0 hte|exact Lib.run_eql_slice_nil c.w tt e A m cc hte
  have e2:∀z1 z2,(do eqGuard .eql tt z1 z2 (a.eval x) (a.eval y);binOp .eql tt (a.eval x) (a.eval y):Sem Value).run P c.w=.ok (.bool A.isNone) c.w:=fun z1 z2=>by
   rw[hA,eqGuard_at_slice,←hA];simpa using e1
  simp only[execOp,ho,Sem.run_bind,Sem.run_pure] at e2 ⊢
  simp only[e2,Result.andThen_ok]
 refine wpList_step fun K hK=>?_
 rw[Xx hg hr,if_pos rfl]
 unfold Oper.wp
 rw[hrun,Oper.upon_value]
 have hput:=hr.put (d:=o.dst) (x:=.p (.bool A.isNone)) (v:=.bool A.isNone) (dlt hN hd hdN) (.fr _ _ (.p _))
 refine hK _ _ (h A.isNone hne c _ ?_)
 rw[hd] at hput ⊢
 exact hput
end
open Go.RowKit Go.Sort Go.Shelf
theorem QoZ (F:Array Value→Array Value)(blk m:Nat)(os:Array Obj)(w:World){i:Nat}(hi:i<w.heap.size)(hne:i≠blk):(grow (mapBlock (Sort.ahead w m) blk F) os).heap[i]?=w.heap[i]?:=by
 unfold mapBlock grow Sort.ahead
 simp only
 rw[Array.getElem?_append,if_pos (by simp;omega),Array.getElem?_modify,if_neg (by omega)]
theorem QwE (F:Array Value→Array Value)(blk m:Nat)(os:Array Obj)(w:World){cur:Array Value}{te:TypeId}{fz:Nat×Nat}(hb:w.heap[blk]?=some (.cells cur te fz)):
  (grow (mapBlock (Sort.ahead w m) blk F) os).heap[blk]?=some (.cells (F cur) te fz):=by
 have hi:blk<w.heap.size:=(Array.getElem?_eq_some_iff.1 hb).1
 unfold mapBlock grow Sort.ahead
 simp only
 rw[Array.getElem?_append,if_pos (by simp;omega),Array.getElem?_modify,if_pos rfl,hb]
 rfl
section
variable {P:Program}{E:X7}{c:Cx}{a:Act}{st:St}
def QsZ (P:Program)(sf:FuncId):Prop:=∀(blk cap:Nat) (ss:List Nm) (w:World),Holds encStr w blk 0 ss.toArray→blk<w.heap.size→ss.length<4611686018427387904 →
 Calls P sf #[.slice (some ⟨blk,0,none⟩) ss.length cap] w fun e w'=>e=.returned (.tuple #[])∧∃n os,w'=grow (putRow encStr (Sort.ahead w n) blk 0 (ss.mergeSort fun x y=>decide (x≤y)).toArray) os
def Qm9 (P:Program)(sf:FuncId):Prop:=∀(p:Option Addr) (cap:Nat) (w:World),Calls P sf #[.slice p 0 cap] w fun e w'=>e=.returned (.tuple #[])∧w'=w
theorem Jk.sortS {sf:FuncId}(L:QsZ P sf)(L0:Qm9 P sf)(hr:Jk E c a st){q:Nat}{te:TypeId}(l:List Nm)(hq:Qb st.H q=some (.arr te 1 (l.map sv1))){v:Value}(hv:VR c v (.own q l.length))(hl:l.length<4611686018427387904):
  Calls P sf #[v] c.w fun e w'=>∃c':Cx,e=.returned (.tuple #[])∧c'.w=w'∧Jk E c' a (st.set q (.arr te 1 ((l.mergeSort fun x y=>decide (x≤y)).map sv1))):=by
 obtain⟨hkq,v0,hv0,hor,hwr⟩:=hr.live q _ hq
 cases hor with
 |arr _ _ _ _ xs hown hek hxs hS=>
 obtain⟨A0,cap0,hA0⟩:=Y3 hown
 have hvv:v=v0:=by
  cases hv with
  |fr _ _ h=>cases h
  |own _ _ _ hK hV=>
   have hn:l.length=(l.map sv1).length:=by simp
   rw[(hV A0 _ cap0 (by rw[hv0,hA0])).2 hn,hA0]
 subst hvv
 obtain⟨m,hm⟩:∃m:List Nm,m=l.mergeSort (fun x y=>decide (x≤y)):=⟨_,rfl⟩
 have hml:m.length=l.length:=by rw[hm];exact(List.mergeSort_perm l _).length_eq
 rw[←hm]
 have hflat:∀z:List Nm,(z.map sv1).flatten=z.map sv:=fun z=>by
  induction z with
  |nil=>rfl
  |cons x z ih=>rw[List.map_cons,List.flatten_cons,ih];rfl
 have hxv:xs=l.map encStr:=by
  refine List.ext_getElem? fun i=>?_
  have hxl:xs.length=l.length:=by have:=hown.1;simpa using this
  rcases Nat.lt_or_ge i l.length with h|h
  ·have h1:xs[i]?=some xs[i]:=List.getElem?_eq_getElem (by omega)
   have h2:(l.map sv1).flatten[i]?=some (sv l[i]):=by rw[hflat,List.getElem?_map,List.getElem?_eq_getElem h];rfl
   have:=(hxs i _ _ h1 h2).p_inv
   rw[h1,List.getElem?_map,List.getElem?_eq_getElem h,this];rfl
  rw[List.getElem?_eq_none (by omega),List.getElem?_eq_none (by simpa using h)]
 rcases hown.2 with ⟨hvn,h0⟩|⟨blk,cap,cur,hvs,hbg,hblkc,hnc,hcm,hcs,htk⟩
 ·have h0':l=[]:=by simpa using h0
  subst h0'
  have hm0:m=[]:=List.eq_nil_of_length_eq_zero hml
  subst hm0
  rw[hvn];refine Calls.mono (L0 none 0 c.w) ?_;rintro e w' ⟨rfl,rfl⟩
  obtain⟨c',e1,e2,hle,e4,e5,hr'⟩:=hr.upd hq (w':=c.w) (S':=c.S) hv0 (.arr te 1 []) (v':=v) rfl rfl rfl ⟨Nat.le_refl _,Nat.le_refl _⟩ (fun _ _ _=>rfl) (fun _ _ h=>⟨h,rfl⟩) (fun _ _ h=>.inl h) (.inl rfl) (.refl _)
   (fun c' e1 e2 hle=>.arr v te 1 [] xs (by rw[e1];exact hown) (by simp) (fun i u x hi hx=>by simp at hx) (fun b hb off hs=>hS b hb off (by rw[e2] at hs;exact hs)))
  exact⟨c',rfl,e1,hr'⟩
 ·simp only[List.length_map] at hvs hnc htk
  have hblk:blk<c.w.heap.size:=(Array.getElem?_eq_some_iff.1 hblkc).1
  have hH:Holds encStr c.w blk 0 l.toArray:=fun j hj=>by
   have hj':j<l.length:=by simpa using hj
   refine⟨?_,by simp[World.frozen?,hblkc]⟩;obtain⟨g',cp,hg',hcell⟩:=Qa7 hown (i:=j) (u:=encStr l[j]) (by rw[hxv,List.getElem?_map,List.getElem?_eq_getElem hj'];rfl)
   have:g'=blk:=by rw[hvs] at hg';have:=(Value.slice.inj hg').1;simpa using this.symm
   subst this
   rw[Nat.zero_add,hcell,getElem!_pos l.toArray j hj]
   simp
  have hSo:=L blk cap l c.w hH hblk hl
  rw[←hvs,←hm] at hSo;refine hSo.mono ?_;rintro e w' ⟨rfl,n',os,rfl⟩
  have hcur:l.length≤cur.size:=by rw[hcs];omega
  obtain⟨c',e1,e2,hle,e4,e5,hr'⟩:=hr.upd hq (w':=grow (putRow encStr (Sort.ahead c.w n') blk 0 m.toArray) os) (S':=c.S) hv0 (.arr te 1 (m.map sv1)) (v':=v) rfl rfl rfl ⟨by simp[grow,putRow,mapBlock,Sort.ahead],Nat.le_add_right _ _⟩
   (fun b hb hne=>QoZ _ _ _ _ _ hb (fun e=>hne (by rw[hvs,e];rfl)))
   (fun b off hs=>⟨hs,World.cell?_of_block (a:=⟨b,off,none⟩) (QoZ _ _ _ _ _ (hr.Ssz b off hs) (fun e=>hS blk (by rw[hvs];rfl) off (e▸hs)))⟩) (fun _ _ h=>.inl h) (.inl rfl) (.refl _)
   (fun c' e1 e2 hle=>.arr v te 1 _ (m.map encStr) (by
     rw[e1];refine⟨by simp,.inr ⟨blk,cap,putCells encStr 0 m.toArray cur,by rw[hvs];simp[hml],hbg,QwE _ _ _ _ _ hblkc,by simpa [hml] using hnc,hcm,by simp[putCells,hcs],?_⟩⟩
     apply List.ext_getElem?
     intro i;rw[List.getElem?_take]
     by_cases hi:i<m.length
     ·have hi2:i<cur.size:=by omega
      rw[if_pos (by simpa using hi)]
      simp[putCells,hi,hi2]
     rw[if_neg (by simpa using hi),List.getElem?_eq_none (by simpa using hi)])
    (fun e he=>by
     obtain⟨x,-,rfl⟩:=List.mem_map.1 he
     rfl)
    (fun i u x hi hx=>by
     rw[hflat,List.getElem?_map] at hx;rw[List.getElem?_map] at hi
     cases hj:m[i]? with
     |none=>rw[hj] at hi;cases hi
     |some z=>rw[hj] at hi hx;cases hi;cases hx;exact .fr _ _ (.p _))
    (fun b hb off hs=>hS b hb off (by rw[e2] at hs;exact hs)))
  exact⟨c',rfl,e1,hr'⟩
variable {Q:Exit→St→Prop}{ops:Array Oper}{o:Oper}{rest:List Oper}{t:List (Nat×AV)}{H:List (Nat×Qj)}{nx N d:Nat}{w:Bool}
theorem Qt8 (hN:E.N=N){sf:FuncId}(L:QsZ P sf)(L0:Qm9 P sf)[hSF:Xl P sf](l:List Nm){sx:Operand}{ts:Array TypeId}(ho:o.op=.call { callee:=.value (.func sf),args := #[sx],argTypes:=ts })
  {q n:Nat} (hs:X4 ⟨t,H,nx⟩ sx=some (.own q n)) (hn:n=l.length) {te:TypeId} (hq:Qb H q=some (.arr te 1 (l.map sv1))) (hl:l.length<4611686018427387904)
  (hw1:Qo ops ⟨t,H,nx⟩ o=some w) (hw:w=true) (hd:o.dst=some d) (hdN:Nat.blt d N=true)
  (h:Q3 P E ops rest Q ⟨(d,.p (.tuple #[]))::t,(q,.arr te 1 ((l.mergeSort fun x y=>decide (x≤y)).map sv1))::H,nx⟩):Q3 P E ops (o::rest) Q ⟨t,H,nx⟩:=fun c a hr=>by
 subst hw hn
 refine wpList_step fun K hK=>?_
 rw[Xx hw1 hr,if_pos rfl]
 have hv:=hr.ev sx
 rw[QZ hs] at hv
 have hrun:(execOp a.eval o).run P c.w=.ok (.enter sf #[a.eval sx]) c.w:=by
  have e1:a.eval (.func sf)=.func (.func sf) #[] #[]:=rfl
  simp[execOp,ho,resolve,invoke,e1,Deferred.ofValue,hSF.h]
 unfold Oper.wp
 rw[hrun,Oper.upon_enter];refine(hr.sortS L L0 l hq hv hl).mono ?_;rintro e w' ⟨c',rfl,rfl,hr'⟩
 have hput:=hr'.put (d:=o.dst) (x:=.p (.tuple #[])) (v:=.tuple #[]) (dlt hN hd hdN) (.fr _ _ (.p _))
 refine hK _ _ (h c' _ ?_)
 rw[hd] at hput ⊢
 exact hput
end
theorem Qll {P:Program}{f:FuncId}{args:List AV}{te:TypeId}{k:Nat}{es:List (List AV)}(h:FO P f args te k es)(hk:es.all (okE k)=true):FC P f args (.sl es none):=fun w S vs hS hv=>by
 refine(h w S vs hS hv).mono ?_;rintro e w' ⟨v,S',xs,rfl,hbel,h1,h2,hown,hnew,hek,hx,hno⟩;refine⟨v,fun b o=>S' b o∨(Xd v=some b∧o<es.length*k),rfl,hbel,fun b o hs=>.inl (h1 b o hs),fun b o hs=>?_,?_⟩
 ·rcases hs with hs|⟨hs,_⟩
  ·exact h2 b o hs
  exact .inr ⟨hnew b hs,WH hown hs⟩
 exact FR.of_own (xs:=xs) (n:=es.length) (te:=te) (k:=k) hown rfl hk (fun b hb off hoff=>.inr ⟨hb,hoff⟩) (fun i u y hi hy=>(hx i u y hi hy).mono (fun b o hs=>⟨.inl hs,rfl⟩))
def Qfk (H:List (Nat×Qj))(q:Nat):Bool:=match Qb H q with|some ob => !ob.fix|none=>true
theorem Quv {H:List (Nat×Qj)}{q:Nat}(h:Qfk H q=true)(ob:Qj):QcL H ((q,ob)::H):=fun p ob' h1 h2=>by
 rw[Qn]
 by_cases e:p=q
 ·subst e
  unfold Qfk at h
  rw[h1] at h
  simp only at h
  rw[h2] at h;cases h
 ·rw[if_neg e];exact h1
structure Dl where
 d:Nat
 x:AV
 q:Nat
 ob:Qj
 b:Nat
def Dl.H (D:Dl)(s:St):St:=⟨s.t,(D.q,D.ob)::s.H,s.nx+D.b⟩
def Dl.app (D:Dl)(s:St):St:=(D.H s).put (some D.d) D.x
section
variable {P:Program}{E:X7}{ops:Array Oper}{md:Region.Mode}
def PE (P:Program)(E:X7)(o:Oper)(s:St)(D:Dl):Prop:=
 Qfk s.H D.q=true∧o.dst=some D.d∧D.d<E.N∧∀st':St,(∀y∈o.op.operands,st'.ev y=s.ev y)→Qb st'.H D.q=Qb s.H D.q→st'.nx=s.nx→∀c a,Jk E c a st' →
  ∃v c',(execOp a.eval o).run P c.w=.ok (.value v) c'.w∧Jk E c' a (D.H st')∧VR c' v D.x
def EOk (P:Program)(E:X7)(ops:Array Oper)(o:Oper)(s:St)(D:Dl):Prop:=Qo ops s o=some true∧PE P E o s D
def FK (P:Program)(E:X7)(ops:Array Oper)(o:Oper)(T:St→Prop)(s:St):Prop:=∃D,EOk P E ops o s D∧T (D.app s)
theorem Dl.H_eqv (D:Dl){s s':St}(e:Eqv s s'):Eqv (D.H s) (D.H s'):=
 ⟨e.1,fun o=>by show Qb ((D.q,D.ob)::s.H) o=Qb ((D.q,D.ob)::s'.H) o;rw[Qn,Qn,e.2.1],by show s.nx+D.b=s'.nx+D.b;rw[e.2.2]⟩
theorem Dl.app_eqv (D:Dl){s s':St}(e:Eqv s s'):Eqv (D.app s) (D.app s'):=(D.H_eqv e).put _ _
theorem EOk.congr {o:Oper}{s s':St}{D:Dl}(h:EOk P E ops o s D)(e:Eqv s s'):EOk P E ops o s' D:=by
 obtain⟨h1,h2,h3,h4,h5⟩:=h;exact⟨by rw[←e.wanted ops o];exact h1,by unfold Qfk at *;rw[←e.2.1];exact h2,h3,h4,fun st g1 g2 g3=>h5 st (fun y hy=>(g1 y hy).trans (e.ev y).symm) (by rw[e.2.1];exact g2) (by rw[e.2.2];exact g3)⟩
theorem FK.congr {o:Oper}{T:St→Prop}(hT:Yj T):Yj (FK P E ops o T):=fun _ _ e ⟨D,h1,h2⟩=>⟨D,h1.congr e,hT _ _ (D.app_eqv e) h2⟩
theorem QiD {o:Oper}{s:St}{d:Option Nat}{u:AV}(h:∀k,d=some k→k∉o.looksAt ops):Qo ops (s.put d u) o=Qo ops s o:=by
 unfold Qo
 cases hg:o.guard with
 |none=>rfl
 |some jw=>
  obtain⟨j,want⟩:=jw
  simp only
  cases hd:(ops[j]?).bind (·.dst) with
  |none=>rfl
  |some k=>
   have hne:d≠some k:=fun e=>h k e (by
    unfold Oper.looksAt
    rw[hg]
    exact List.mem_append_right _ (by simp[hd]))
   simp only[Qdt,if_neg hne]
theorem Qlz {o:Oper}{s:St}{d:Option Nat}{u:AV}(h:∀k,d=some k→k∉o.looksAt ops){y:Operand}(hy:y∈o.op.operands):(s.put d u).ev y=s.ev y:=
 QkO s d u y fun k hk e=>h k hk (by
  subst e
  exact List.mem_append_left _ (List.mem_filterMap.2 ⟨.tmp k,by simpa using hy,rfl⟩))
theorem EOk.back {o:Oper}{s:St}{d:Option Nat}{u:AV}{D:Dl}(h:EOk P E ops o (s.put d u) D)(hl:∀k,d=some k→k∉o.looksAt ops):EOk P E ops o s D:=by
 obtain⟨h1,h2,h3,h4,h5⟩:=h;refine⟨by rw[QiD hl] at h1;exact h1,by rw[(QdA _ _ _).1] at h2;exact h2,h3,h4,fun st g1 g2 g3=>h5 st (fun y hy=>(g1 y hy).trans (Qlz hl hy).symm) (by rw[(QdA _ _ _).1];exact g2) (by rw[(QdA _ _ _).2];exact g3)⟩
theorem YA.app {oi oe:Oper}{s:St}{x:AV}{D:Dl}(h:YA P E ops oi x s)(he:EOk P E ops oe s D)(hl:∀k,oe.dst=some k→k∉oi.looksAt ops):YA P E ops oi x (D.app s):=by
 obtain⟨-,h2,h3,h4,-⟩:=he
 have hl':∀k,some D.d=some k→k∉oi.looksAt ops:=fun k e=>hl k (h3.trans e)
 obtain⟨g1,g2⟩:=h;refine⟨g1,?_⟩
 have hw:Qo ops (D.app s) oi=Qo ops s oi:=by
  unfold Dl.app;rw[QiD hl'];rfl
 rw[hw]
 rcases g2 with ⟨g2,g3⟩|g2
 ·refine .inl ⟨g2,fun st k1 k2=>g3 st (fun y hy=>(k1 y hy).trans ?_) ?_⟩
  ·unfold Dl.app;rw[Qlz hl' hy]
   cases y<;>rfl
  exact(Quv h2 D.ob).trans (by have:=k2;rw[show(D.app s).H=(D.q,D.ob)::s.H from(QdA _ _ _).1] at this;exact this)
 exact .inr g2
theorem Qm6 (D:Dl)(s:St){d:Option Nat}(x:AV)(h:d≠some D.d):Eqv (D.app (s.put d x)) ((D.app s).put d x):=by
 have e:D.H (s.put d x)=(D.H s).put d x:=by cases d<;>rfl
 unfold Dl.app
 rw[e];exact Qmi _ x D.x (fun k hk e2=>h (by rw[hk,←e2]))
def QhS (md:Region.Mode)(ops:Array Oper):Nat→Nat→Nat→Bool
 |0,j,i=>Nat.beq j i
 |f+1,j,i=>Nat.beq j i||(match ops[j]? with|some oj=>oj.after.any fun e=>Region.binds md e&&QhS md ops f e.on i|none=>false)
theorem QhT {n:Nat}{listed:Array Bool}(inv:HeadInv md ops n listed){i:Nat}:∀(f j:Nat),QhS md ops f j i=true→listed.getD j false=true→listed.getD i false=true
 |0,j,h,hl=>by rw[←Nat.eq_of_beq_eq_true h];exact hl
 |f+1,j,h,hl=>by
  unfold QhS at h
  rw[Bool.or_eq_true] at h
  rcases h with h|h
  ·rw[←Nat.eq_of_beq_eq_true h];exact hl
  cases hj:ops[j]? with
  |none=>rw[hj] at h;cases h
  |some oj=>
   rw[hj] at h;obtain⟨e,he,hb⟩:=Array.any_eq_true'.1 h;rw[Bool.and_eq_true] at hb;exact QhT inv f e.on hb.2 (inv.closed j oj hj hl e he hb.1)
theorem QjH {n:Nat}{listed:Array Bool}(inv:HeadInv md ops n listed){i:Nat}{f j:Nat}(h:QhS md ops f j i=true)(hr:j∈Region.ready md ops listed)(hne:j≠i):listed.getD i false=true:=by
 obtain⟨_,oj,hoj,hall⟩:=mem_ready.1 hr
 cases f with
 |zero=>exact absurd (Nat.eq_of_beq_eq_true h) hne
 |succ f=>
  unfold QhS at h
  rw[Bool.or_eq_true] at h
  rcases h with h|h
  ·exact absurd (Nat.eq_of_beq_eq_true h) hne
  ·rw[hoj] at h
   obtain⟨e,he,hb⟩:=Array.any_eq_true'.1 h;rw[Bool.and_eq_true] at hb;exact QhT inv f e.on hb.2 (hall e he hb.1)
def Qg8 (md:Region.Mode)(ops:Array Oper):List Nat→Array Bool→Bool
 |[],listed=>(Region.ready md ops listed).isEmpty
 |k::r,listed=>decide (Region.ready md ops listed=[k])&&Qg8 md ops r (listed.setIfInBounds k true)
def Qlq (md:Region.Mode)(ops:Array Oper)(e:Nat)(tl:List Nat):List Nat→Array Bool→Bool
 |[],listed=>decide (Region.ready md ops listed=[e])&&Qg8 md ops tl (listed.setIfInBounds e true)
 |i::r,listed=>(Region.ready md ops listed).contains i&&Region.free md ops listed i&&Qlq md ops e tl r (listed.setIfInBounds i true)
def QtL (md:Region.Mode)(ops:Array Oper)(hd:List Nat)(e:Nat)(tl:List Nat):Bool:=
 Qlq md ops e tl hd (Array.replicate ops.size false)&&((List.range ops.size).all fun j=>hd.contains j||Nat.beq j e||tl.contains j) &&
 (tl.all fun j => !hd.contains j && !Nat.beq j e&&hd.all fun i=>QhS md ops ops.size j i)&&(hd.all fun i => !Nat.beq i e)&&Nat.beq (hd.length+1+tl.length) ops.size
def Qn8 (P:Program)(E:X7)(md:Region.Mode)(ops:Array Oper)(hd:List Nat)(e:Nat)(oe:Oper)(L:Array Bool→St→Prop):Nat→Array Bool→St→Prop
 |0,listed,s=>L listed s
 |f+1,listed,s=>Region.ready md ops listed≠[]∧∀i∈Region.ready md ops listed,
   (i∈hd∧aOp P E ops i (Qn8 P E md ops hd e oe L f (listed.setIfInBounds i true)) s)∨(i=e∧FK P E ops oe (Qn8 P E md ops hd e oe L f (listed.setIfInBounds i true)) s)
variable {hd:List Nat}{e:Nat}{oe:Oper}
theorem Qb5 {L:Array Bool→St→Prop}(hL:∀listed,Yj (L listed)):∀f listed,Yj (Qn8 P E md ops hd e oe L f listed)
 |0,listed=>hL listed
 |f+1,_=>fun _ _ q h=>⟨h.1,fun i hi=>(h.2 i hi).imp (fun h=>⟨h.1,QgE (Qb5 hL f _) q h.2⟩) (fun h=>⟨h.1,FK.congr (Qb5 hL f _) _ _ q h.2⟩)⟩
theorem Qof {i:Nat}{oi:Oper}{x:AV}{tl:List Nat}{L:Array Bool→St→Prop}(hLc:∀listed,Yj (L listed))(hi:ops[i]?=some oi)(hid:i∈hd)(hie:i≠e)(hoe:ops[e]?=some oe)
  (hcov:∀j,j<ops.size→j∈hd∨j=e∨j∈tl) (hdep:∀j∈tl,j≠i∧QhS md ops ops.size j i=true)
  (hdone:∀listed s,L listed s→∀j∈Region.ready md ops listed,j∉hd∧j≠e) :
  ∀(f:Nat) (listed:Array Bool) (s:St),HeadInv md ops ops.size listed →
   (∀j oj,ops[j]?=some oj→j≠i→listed.getD j true=false→(∀e∈oj.after,Region.binds md e=true→e.on≠i)→oi.apart ops oj=true) →
   i∈Region.ready md ops listed→YA P E ops oi x s →
   Qn8 P E md ops hd e oe L f (listed.setIfInBounds i true) (s.put oi.dst x)→Qn8 P E md ops hd e oe L (f+1) listed s:=by
 have own:∀(K:St→Prop) (s:St),YA P E ops oi x s→K (s.put oi.dst x)→aOp P E ops i K s:=fun K s hy H=>by
  unfold aOp;simp only[hi];exact⟨x,hy,H⟩
 intro f
 induction f with
 |zero=>
  intro listed s inv hfree hr hy H
  have hun:=(mem_ready.1 hr).1
  refine⟨fun h=>(by rw[h] at hr;cases hr),fun j hj=>?_⟩
  by_cases hji:j=i
  ·subst hji;exact .inl ⟨hid,own _ _ hy H⟩
  have h1:=hdone _ _ H j (ready_mono hj hji)
  obtain⟨_,oj,hoj,_⟩:=mem_ready.1 hj
  rcases hcov j (Array.getElem?_eq_some_iff.1 hoj).1 with h2|h2|h2
  ·exact absurd h2 h1.1
  ·exact absurd h2 h1.2
  have:=QjH inv (hdep j h2).2 hj hji
  rw[getD_both hun] at this;cases this
 |succ f ih=>
  intro listed s inv hfree hr hy H
  have hun:=(mem_ready.1 hr).1
  refine⟨fun h=>(by rw[h] at hr;cases hr),fun j hj=>?_⟩
  by_cases hji:j=i
  ·subst hji;exact .inl ⟨hid,own _ _ hy H⟩
  ·obtain⟨hjun,oj,hoj,hall⟩:=mem_ready.1 hj
   have hjlt:=(Array.getElem?_eq_some_iff.1 hoj).1
   have hnot:∀e∈oj.after,Region.binds md e=true→e.on≠i:=fun e he hb heq=>by
    have h1:=hall e he hb
    rw[heq,getD_both hun] at h1
    cases h1
   have hap:=hfree j oj hoj hji hjun hnot
   have hfree':∀k ok,ops[k]?=some ok→k≠i→(listed.setIfInBounds j true).getD k true=false →
     (∀e∈ok.after,Region.binds md e=true→e.on≠i)→oi.apart ops ok=true:=fun k ok hk hki hun hno=>by
    refine hfree k ok hk hki ?_ hno
    by_cases hjk:j=k
    ·subst hjk;exact hjun
    rw[getD_set_ne true hjk] at hun;exact hun
   rcases H.2 j (ready_mono hj hji) with ⟨hjd,h1⟩|⟨hje,h1⟩
   ·have h2:=Qhn hoj hap (Qb5 hLc f _) hy h1
    refine .inl ⟨hjd,QfE (fun s' h3=>ih (listed.setIfInBounds j true) s' (inv.set hj hjlt) hfree' (ready_mono hr (Ne.symm hji)) h3.1 ?_) h2⟩;rw[Array.setIfInBounds_comm _ _ hji];exact h3.2
   ·subst hje
    have:oj=oe:=Option.some.inj (hoj.symm.trans hoe)
    subst this
    obtain⟨a1,a2,a3⟩:=Oper.apart_spec hap;obtain⟨D,hD,hT⟩:=h1
    have hD':=hD.back a1
    refine .inr ⟨rfl,D,hD',ih (listed.setIfInBounds j true) _ (inv.set hj hjlt) hfree' (ready_mono hr (Ne.symm hji)) (hy.app hD' a3) ?_⟩;rw[Array.setIfInBounds_comm _ _ hji];exact Qb5 hLc f _ _ _ (Qm6 D s x fun q=>a2 _ q hD.2.2.1) hT
def QbV (l:List Oper):List Nat→List Oper
 |[]=>[]
 |i::r=>match l[i]? with
  |some o=>o::QbV l r
  |none=>QbV l r
theorem Qm0 {l0:List Oper}(hops:ops=l0.toArray){tl:List Nat}{T:St→Prop}(hT:Yj T)(hoe:ops[e]?=some oe)(hne:∀i∈hd,i≠e)(hcov:∀j,j<ops.size→j∈hd∨j=e∨j∈tl)
  (hdep:∀j∈tl,j∉hd∧j≠e∧∀i∈hd,QhS md ops ops.size j i=true) :
  ∀(l:List Nat) (listed:Array Bool) (s:St),(∀i∈l,i∈hd)→HeadInv md ops ops.size listed→Qlq md ops e tl l listed=true→JE P E ops (FK P E ops oe T) (QbV l0 l) s →
  Qn8 P E md ops hd e oe (fun listed' s'=>Qg8 md ops tl listed'=true∧T s') (l.length+1) listed s
 |[],listed,s,_,inv,hB,h=>by
  simp only[Qlq,Bool.and_eq_true,decide_eq_true_eq] at hB
  refine⟨fun q=>(by rw[hB.1] at q;cases q),fun i hi=>?_⟩;rw[hB.1] at hi
  have:i=e:=by simpa using hi
  subst this
  obtain⟨D,h1,h2⟩:=h;exact .inr ⟨rfl,D,h1,hB.2,h2⟩
 |i::l,listed,s,hl,inv,hB,h=>by
  simp only[Qlq,Bool.and_eq_true] at hB
  obtain⟨⟨hr,hf⟩,hB'⟩:=hB
  have hr':i∈Region.ready md ops listed:=by simpa using hr
  obtain⟨_,oi,hoi,_⟩:=mem_ready.1 hr'
  have hoi':l0[i]?=some oi:=by rw[hops] at hoi;simpa using hoi
  simp only[QbV,hoi'] at h
  obtain⟨x,hy,hK'⟩:=h
  have hid:=hl i (by simp)
  refine Qof (tl:=tl) (fun _ _ _ q h=>⟨h.1,hT _ _ q h.2⟩) hoi hid (hne i hid) hoe hcov (fun j hj=>⟨fun q=>(hdep j hj).1 (q▸hid),(hdep j hj).2.2 i hid⟩) (fun listed' s' hL j hj=>?_) (l.length+1) listed s inv (Region.free_spec hoi hf) hr' hy
   (Qm0 hops hT hoe hne hcov hdep l _ _ (fun k hk=>hl k (by simp[hk])) (inv.set hr' (Array.getElem?_eq_some_iff.1 hoi).1) hB' hK')
  cases tl with
  |nil=>
   have h0:=hL.1
   simp only[Qg8,List.isEmpty_iff] at h0
   rw[h0] at hj;cases hj
  |cons k r=>
   have h0:=hL.1
   simp only[Qg8,Bool.and_eq_true,decide_eq_true_eq] at h0
   rw[h0.1] at hj
   have:j=k:=by simpa using hj
   subst this
   exact⟨(hdep j (by simp)).1,(hdep j (by simp)).2.1⟩
theorem Qcu {g:Nat}{L:Array Bool→St→Prop}{Q':Exit→Act→World→Prop}(hoe:ops[e]?=some oe)(hL:∀listed c a s,Jk E c a s→L listed s→wpAny P md ops Q' g listed a c.w):
  ∀(f:Nat) (listed:Array Bool) (c:Cx) (a:Act) (s:St),Jk E c a s→Qn8 P E md ops hd e oe L f listed s→wpAny P md ops Q' (f+g) listed a c.w
 |0,listed,c,a,s,hr,h=>by rw[Nat.zero_add];exact hL _ _ _ _ hr h
 |f+1,listed,c,a,s,hr,h=>by
  rw[show f+1+g=(f+g)+1 by omega];refine⟨fun h0=>absurd h0 h.1,fun i hi=>?_⟩
  rcases h.2 i hi with ⟨_,h1⟩|⟨hie,D,⟨h1,h2,h3,h4,h5⟩,hT⟩
  ·exact KR hr (fun c' a' s' hr' h'=>Qcu hoe hL f _ c' a' s' hr' h') h1
  ·have hoi:ops[i]?=some oe:=by rw[hie];exact hoe
   unfold wpOp
   simp only[hoi]
   rw[Xx h1 hr,if_pos rfl];obtain⟨v,c',hrun,hr',hv⟩:=h5 s (fun _ _=>rfl) rfl rfl c a hr;refine .inl ?_
   unfold Oper.wp
   rw[hrun,Oper.upon_value];refine Qcu hoe hL f _ c' _ (D.app s) ?_ hT;rw[h3];exact hr'.put (fun d q=>by cases q;exact h4) hv
theorem Qck {Q':Exit→Act→World→Prop}{l0:List Oper}(hops:ops=l0.toArray):∀(tl:List Nat) (listed:Array Bool) (a:Act) (w:World),Qg8 md ops tl listed=true→wpList P ops Q' (QbV l0 tl) a w→wpAny P md ops Q' tl.length listed a w
 |[],listed,a,w,hB,h=>⟨by simpa [Qg8] using hB,h⟩
 |k::r,listed,a,w,hB,h=>by
  simp only[Qg8,Bool.and_eq_true,decide_eq_true_eq] at hB
  refine⟨fun h1=>(by rw[hB.1] at h1;cases h1),fun i hi=>?_⟩
  have hi':=hi
  rw[hB.1] at hi'
  have hik:i=k:=by simpa using hi'
  subst hik
  obtain⟨_,oi,hoi,_⟩:=mem_ready.1 hi
  have hoi':l0[i]?=some oi:=by rw[hops] at hoi;simpa using hoi
  simp only[QbV,hoi'] at h
  have hw:wpOp P ops Q' i (wpList P ops Q' (QbV l0 r)) a w:=by unfold wpOp;simp only[hoi];exact h
  exact wpOp_mono (fun a' w' h'=>Qck hops r _ a' w' hB.2 h') hw
theorem QeA {Q:Exit→St→Prop}{st:St}{id:Nat}{l:List Oper}(hd:List Nat)(e:Nat)(tl:List Nat){oe:Oper}(he:l[e]?=some oe)(hm:P.follows .mixedOrders=true)(hB:QtL .any l.toArray hd e tl=true)
  (h:JE P E l.toArray (FK P E l.toArray oe (Q3 P E l.toArray (QbV l tl) Q)) (QbV l hd) st):Y1 P E (.region id l.toArray true) Q st:=fun c a hr=>by
 simp only[QtL,Bool.and_eq_true,List.all_eq_true,Bool.or_eq_true,List.contains_iff_mem,List.mem_range,Bool.not_eq_true'] at hB
 obtain⟨⟨⟨⟨h1,h2⟩,h3⟩,h4⟩,h5⟩:=hB
 have nb:∀ {m n:Nat},Nat.beq m n=false→m≠n:=fun {m n} h q=>by subst q;rw[Nat.beq_refl] at h;cases h
 have hsz:=Nat.eq_of_beq_eq_true h5
 have hoe:l.toArray[e]?=some oe:=by simpa using he
 have inv0:HeadInv .any l.toArray l.toArray.size (Array.replicate l.toArray.size false):=
  ⟨by simp,fun j oj _ hl=>(by rw[getD_replicate_false] at hl;cases hl),fun t h1 h2=>absurd h1 (by omega)⟩
 have H:=Qm0 (P:=P) (E:=E) (md:=.any) (l0:=l) rfl (tl:=tl) (Qd3 (P:=P) (E:=E) (Q:=Q) (QbV l tl)) hoe (fun i hi=>nb (h4 i hi)) (fun j hj=>by
   rcases h2 j hj with (h2|h2)|h2
   ·exact .inl h2
   ·exact .inr (.inl (Nat.eq_of_beq_eq_true h2))
   exact .inr (.inr h2)) (fun j hj=>⟨fun q=>absurd ((List.contains_iff_mem.2 q).symm.trans (h3 j hj).1.1) (by decide),nb (h3 j hj).1.2,fun i hi=>(h3 j hj).2 i hi⟩) hd _ st (fun _ h=>h) inv0 h1 h
 refine wp_region_any hm ?_
 have hr1:=hr.drew
 have:=Qcu (md:=.any) (Q':=QfB E Q) (g:=tl.length) hoe (fun listed c a s hr hL=>Qck rfl tl listed a c.w hL.1 (hL.2 c a hr)) _ _ _ _ _ hr1 H
 rw[hsz] at this;exact this
variable {o:Oper}{t:List (Nat×AV)}{H:List (Nat×Qj)}{nx N d:Nat}{w:Bool}{T:St→Prop}
theorem Qkz (hN:E.N=N)(hB:Nat.blt nx Qf=true){tt:TypeId}(ho:o.op=.alloc tt){zs:List Value}[hz:Xa P tt zs](hq:Qfk H nx=true)(hg:Qo ops ⟨t,H,nx⟩ o=some w)(hw:w=true)(hd:o.dst=some d)(hdN:Nat.blt d N=true)
  (h:T ⟨(d,.ptr nx 0)::t,(nx,.var tt (zs.map .p))::H,nx+1⟩):FK P E ops o T ⟨t,H,nx⟩:=by
 subst hw
 refine⟨⟨d,.ptr nx 0,nx,.var tt (zs.map .p),1⟩,⟨hg,hq,hd,by rw[hN];exact Nat.le_of_ble_eq_true hdN,fun st g1 g2 g3 c a hr=>?_⟩,h⟩
 have hnx:st.nx=nx:=g3
 have hzs:=hz.h
 cases hi:P.info? tt with
 |none=>simp[hi] at hzs
 |some i=>
  cases hz0:i.zero with
  |none=>simp[hi,hz0] at hzs
  |some z=>
   have hzc:z.cells.toList=zs:=by simpa [hi,hz0] using hzs
   obtain⟨c',e1,-,hle,hK,hV,hr'⟩:=hr.new (by rw[hnx];exact Nat.le_of_ble_eq_true hB) (KA c.w (.cells z.cells tt)) (.pointer (some ⟨c.w.heap.size,0,none⟩)) (.var tt (zs.map .p))
    (fun c' e1 e2 hle=>.var c.w.heap.size z.cells tt _ (by rw[e1];exact WB _ _ _) (by rw[←hzc];simp) (fun j u y hi hj=>by
     rw[←hzc,List.getElem?_map] at hj
     have hi':z.cells.toList[j]?=some u:=by simpa using hi
     rw[hi'] at hj
     cases hj
     exact .fr _ _ (.p u)) (fun off hs=>by
     rw[e2] at hs
     exact Nat.lt_irrefl _ (hr.Ssz _ _ hs))) (fun b hb=>by simp[Xd] at hb;omega)
   rw[hnx] at hK hV hr';refine⟨.pointer (some ⟨c.w.heap.size,0,none⟩),c',?_,?_,.ptr _ _ _ hK fun b hb=>?_⟩
   ·rw[e1]
    simp[execOp,ho,Instr.alloc,zeroValue,typeInfo,hi,hz0,newVar,newRow]
   ·show Jk E c' a ⟨st.t,(nx,.var tt (zs.map .p))::st.H,st.nx+1⟩
    rw[hnx];exact hr'
   rw[hV] at hb
   simpa using hb
theorem Qk5 (hN:E.N=N){sx x:Operand}{tt:TypeId}(ho:o.op=.call { callee:=.builtin .append,args := #[sx,x],argTypes := #[tt,tt] }){te:TypeId}{k bytes:Nat}[hT:QaZ P tt te k bytes]
  {es:List (List AV)} {q:Nat} (hs:X4 ⟨t,H,nx⟩ sx=some (.sl es (some q))) {n:Nat} (hq:Qb H q=some (.tok te k n)) (hn:n=es.length) {ax:AV} (hx:X4 ⟨t,H,nx⟩ x=some ax) {es':List (List AV)} (hax:QqG ax=some es')
  (hk:es.all (okE k)=true) (hk':es'.all (okE k)=true) (hb:(es.length+es'.length)*bytes≤140737488355328∧es.length+es'.length≤9223372036854775807) (hg:Qo ops ⟨t,H,nx⟩ o=some w) (hw:w=true) (hd:o.dst=some d) (hdN:Nat.blt d N=true)
  (h:T ⟨(d,.sl (es++es') (some q))::t,(q,.tok te k (es++es').length)::H,nx⟩):FK P E ops o T ⟨t,H,nx⟩:=by
 subst hw hn
 refine⟨⟨d,.sl (es++es') (some q),q,.tok te k (es++es').length,0⟩,⟨hg,by unfold Qfk;rw[hq];rfl,hd,by rw[hN];exact Nat.le_of_ble_eq_true hdN,fun st g1 g2 g3 c a hr=>?_⟩,h⟩
 have e1:=g1 sx (by simp[ho,Op.operands,Call.operands])
 have e2:=g1 x (by simp[ho,Op.operands,Call.operands])
 have hvs:=hr.ev sx
 rw[e1,QZ hs] at hvs
 have hvx:=hr.ev x
 rw[e2,QZ hx] at hvx
 have hq':Qb st.H q=some (.tok te k es.length):=g2.trans hq
 obtain⟨v',c',h1,h2,h3⟩:=hr.append_tok (P:=P) (t:=tt) o.type hq' hvs (Qkf hvx hax) hk hk' hb.1 hb.2;refine⟨v',c',by simp[execOp,ho,resolve,invoke,builtin,h1],?_,h3⟩;rw[List.length_append];exact h2
end
section
variable {P:Program}{E:X7}{ops:Array Oper}{md:Region.Mode}
def Qi6 (md:Region.Mode)(ops:Array Oper)(tl:List Nat):List (Nat×Bool)→Array Bool→Bool
 |[],listed=>Qg8 md ops tl listed
 |(i,false)::r,listed=>(Region.ready md ops listed).contains i&&Region.free md ops listed i&&Qi6 md ops tl r (listed.setIfInBounds i true)
 |(i,true)::r,listed=>decide (Region.ready md ops listed=[i])&&Qi6 md ops tl r (listed.setIfInBounds i true)
def QxB (md:Region.Mode)(ops:Array Oper)(sq:List (Nat×Bool))(tl:List Nat):Bool:=
 Qi6 md ops tl sq (Array.replicate ops.size false)&&((List.range ops.size).all fun j=>sq.contains (j,false)||sq.contains (j,true)||tl.contains j) &&
 (tl.all fun j => !sq.contains (j,false) && !sq.contains (j,true)&&sq.all fun p=>p.2||(QhS md ops ops.size j p.1 && !Nat.beq j p.1))&&Nat.beq (sq.length+tl.length) ops.size
def AM (P:Program)(E:X7)(ops:Array Oper)(T:St→Prop)(l0:List Oper):List (Nat×Bool)→St→Prop
 |[],s=>T s
 |(i,false)::r,s=>match l0[i]? with
  |some o=>∃x,YA P E ops o x s∧AM P E ops T l0 r (s.put o.dst x)
  |none=>False
 |(i,true)::r,s=>match l0[i]? with
  |some o=>FK P E ops o (AM P E ops T l0 r) s
  |none=>False
def Qn9 (P:Program)(E:X7)(md:Region.Mode)(ops:Array Oper)(sq:List (Nat×Bool))(L:Array Bool→St→Prop):Nat→Array Bool→St→Prop
 |0,listed,s=>L listed s
 |f+1,listed,s=>Region.ready md ops listed≠[]∧∀i∈Region.ready md ops listed,
   ((i,false)∈sq∧aOp P E ops i (Qn9 P E md ops sq L f (listed.setIfInBounds i true)) s)∨((i,true)∈sq∧∃oe,ops[i]?=some oe∧FK P E ops oe (Qn9 P E md ops sq L f (listed.setIfInBounds i true)) s)
variable {sq:List (Nat×Bool)}
theorem Qcb {L:Array Bool→St→Prop}(hL:∀listed,Yj (L listed)):∀f listed,Yj (Qn9 P E md ops sq L f listed)
 |0,listed=>hL listed
 |f+1,_=>fun _ _ q h=>⟨h.1,fun i hi=>(h.2 i hi).imp (fun h=>⟨h.1,QgE (Qcb hL f _) q h.2⟩) (fun⟨g,oe,k,h⟩=>⟨g,oe,k,FK.congr (Qcb hL f _) _ _ q h⟩)⟩
theorem Qnl {i:Nat}{oi:Oper}{x:AV}{tl:List Nat}{L:Array Bool→St→Prop}(hLc:∀listed,Yj (L listed))(hi:ops[i]?=some oi)(hid:(i,false)∈sq)
  (hcov:∀j,j<ops.size→(j,false)∈sq∨(j,true)∈sq∨j∈tl) (hdep:∀j∈tl,j≠i∧QhS md ops ops.size j i=true)
  (hdone:∀listed s,L listed s→∀j∈Region.ready md ops listed,(j,false)∉sq∧(j,true)∉sq) :
  ∀(f:Nat) (listed:Array Bool) (s:St),HeadInv md ops ops.size listed →
   (∀j oj,ops[j]?=some oj→j≠i→listed.getD j true=false→(∀e∈oj.after,Region.binds md e=true→e.on≠i)→oi.apart ops oj=true) →
   i∈Region.ready md ops listed→YA P E ops oi x s →
   Qn9 P E md ops sq L f (listed.setIfInBounds i true) (s.put oi.dst x)→Qn9 P E md ops sq L (f+1) listed s:=by
 have own:∀(K:St→Prop) (s:St),YA P E ops oi x s→K (s.put oi.dst x)→aOp P E ops i K s:=fun K s hy H=>by
  unfold aOp;simp only[hi];exact⟨x,hy,H⟩
 intro f
 induction f with
 |zero=>
  intro listed s inv hfree hr hy H
  have hun:=(mem_ready.1 hr).1
  refine⟨fun h=>(by rw[h] at hr;cases hr),fun j hj=>?_⟩
  by_cases hji:j=i
  ·subst hji;exact .inl ⟨hid,own _ _ hy H⟩
  have h1:=hdone _ _ H j (ready_mono hj hji)
  obtain⟨_,oj,hoj,_⟩:=mem_ready.1 hj
  rcases hcov j (Array.getElem?_eq_some_iff.1 hoj).1 with h2|h2|h2
  ·exact absurd h2 h1.1
  ·exact absurd h2 h1.2
  have:=QjH inv (hdep j h2).2 hj hji
  rw[getD_both hun] at this;cases this
 |succ f ih=>
  intro listed s inv hfree hr hy H
  have hun:=(mem_ready.1 hr).1
  refine⟨fun h=>(by rw[h] at hr;cases hr),fun j hj=>?_⟩
  by_cases hji:j=i
  ·subst hji;exact .inl ⟨hid,own _ _ hy H⟩
  ·obtain⟨hjun,oj,hoj,hall⟩:=mem_ready.1 hj
   have hjlt:=(Array.getElem?_eq_some_iff.1 hoj).1
   have hnot:∀e∈oj.after,Region.binds md e=true→e.on≠i:=fun e he hb heq=>by
    have h1:=hall e he hb
    rw[heq,getD_both hun] at h1
    cases h1
   have hap:=hfree j oj hoj hji hjun hnot
   have hfree':∀k ok,ops[k]?=some ok→k≠i→(listed.setIfInBounds j true).getD k true=false →
     (∀e∈ok.after,Region.binds md e=true→e.on≠i)→oi.apart ops ok=true:=fun k ok hk hki hun hno=>by
    refine hfree k ok hk hki ?_ hno
    by_cases hjk:j=k
    ·subst hjk;exact hjun
    rw[getD_set_ne true hjk] at hun;exact hun
   rcases H.2 j (ready_mono hj hji) with ⟨hjd,h1⟩|⟨hje,oe,hoe,h1⟩
   ·have h2:=Qhn hoj hap (Qcb hLc f _) hy h1
    refine .inl ⟨hjd,QfE (fun s' h3=>ih (listed.setIfInBounds j true) s' (inv.set hj hjlt) hfree' (ready_mono hr (Ne.symm hji)) h3.1 ?_) h2⟩;rw[Array.setIfInBounds_comm _ _ hji];exact h3.2
   ·have:oj=oe:=Option.some.inj (hoj.symm.trans hoe)
    subst this
    obtain⟨a1,a2,a3⟩:=Oper.apart_spec hap;obtain⟨D,hD,hT⟩:=h1
    have hD':=hD.back a1
    refine .inr ⟨hje,oj,hoe,D,hD',ih (listed.setIfInBounds j true) _ (inv.set hj hjlt) hfree' (ready_mono hr (Ne.symm hji)) (hy.app hD' a3) ?_⟩;rw[Array.setIfInBounds_comm _ _ hji];exact Qcb hLc f _ _ _ (Qm6 D s x fun q=>a2 _ q hD.2.2.1) hT
theorem Qit {l0:List Oper}(hops:ops=l0.toArray){tl:List Nat}{T:St→Prop}(hT:Yj T)(hcov:∀j,j<ops.size→(j,false)∈sq∨(j,true)∈sq∨j∈tl)
  (hdep:∀j∈tl,(j,false)∉sq∧(j,true)∉sq∧∀i,(i,false)∈sq→j≠i∧QhS md ops ops.size j i=true) :
  ∀(l:List (Nat×Bool)) (listed:Array Bool) (s:St),(∀p∈l,p∈sq)→HeadInv md ops ops.size listed→Qi6 md ops tl l listed=true→AM P E ops T l0 l s →
  Qn9 P E md ops sq (fun listed' s'=>Qg8 md ops tl listed'=true∧T s') l.length listed s
 |[],listed,s,_,_,hB,h=>⟨hB,h⟩
 |(i,true)::l,listed,s,hl,inv,hB,h=>by
  simp only[Qi6,Bool.and_eq_true,decide_eq_true_eq] at hB
  refine⟨fun q=>(by rw[hB.1] at q;cases q),fun j hj=>?_⟩
  have hj0:=hj
  rw[hB.1] at hj
  have:j=i:=by simpa using hj
  subst this
  obtain⟨_,oi,hoi,_⟩:=mem_ready.1 hj0
  have hoi':l0[j]?=some oi:=by rw[hops] at hoi;simpa using hoi
  simp only[AM,hoi'] at h
  obtain⟨D,h1,h2⟩:=h;exact .inr ⟨hl _ (by simp),oi,hoi,D,h1,Qit hops hT hcov hdep l _ _ (fun p hp=>hl p (by simp[hp])) (inv.set hj0 (Array.getElem?_eq_some_iff.1 hoi).1) hB.2 h2⟩
 |(i,false)::l,listed,s,hl,inv,hB,h=>by
  simp only[Qi6,Bool.and_eq_true] at hB
  obtain⟨⟨hr,hf⟩,hB'⟩:=hB
  have hr':i∈Region.ready md ops listed:=by simpa using hr
  obtain⟨_,oi,hoi,_⟩:=mem_ready.1 hr'
  have hoi':l0[i]?=some oi:=by rw[hops] at hoi;simpa using hoi
  simp only[AM,hoi'] at h
  obtain⟨x,hy,hK'⟩:=h
  have hid:=hl (i,false) (by simp)
  refine Qnl (tl:=tl) (fun _ _ _ q h=>⟨h.1,hT _ _ q h.2⟩) hoi hid hcov (fun j hj=>(hdep j hj).2.2 i hid) (fun listed' s' hL j hj=>?_) l.length listed s inv (Region.free_spec hoi hf) hr' hy
   (Qit hops hT hcov hdep l _ _ (fun p hp=>hl p (by simp[hp])) (inv.set hr' (Array.getElem?_eq_some_iff.1 hoi).1) hB' hK')
  cases tl with
  |nil=>
   have h0:=hL.1
   simp only[Qg8,List.isEmpty_iff] at h0
   rw[h0] at hj;cases hj
  |cons k r=>
   have h0:=hL.1
   simp only[Qg8,Bool.and_eq_true,decide_eq_true_eq] at h0
   rw[h0.1] at hj
   have:j=k:=by simpa using hj
   subst this
   exact⟨(hdep j (by simp)).1,(hdep j (by simp)).2.1⟩
theorem Qco {g:Nat}{L:Array Bool→St→Prop}{Q':Exit→Act→World→Prop}(hL:∀listed c a s,Jk E c a s→L listed s→wpAny P md ops Q' g listed a c.w):
  ∀(f:Nat) (listed:Array Bool) (c:Cx) (a:Act) (s:St),Jk E c a s→Qn9 P E md ops sq L f listed s→wpAny P md ops Q' (f+g) listed a c.w
 |0,listed,c,a,s,hr,h=>by rw[Nat.zero_add];exact hL _ _ _ _ hr h
 |f+1,listed,c,a,s,hr,h=>by
  rw[show f+1+g=(f+g)+1 by omega];refine⟨fun h0=>absurd h0 h.1,fun i hi=>?_⟩
  rcases h.2 i hi with ⟨_,h1⟩|⟨_,oe,hoi,D,⟨h1,h2,h3,h4,h5⟩,hT⟩
  ·exact KR hr (fun c' a' s' hr' h'=>Qco hL f _ c' a' s' hr' h') h1
  ·unfold wpOp
   simp only[hoi]
   rw[Xx h1 hr,if_pos rfl];obtain⟨v,c',hrun,hr',hv⟩:=h5 s (fun _ _=>rfl) rfl rfl c a hr;refine .inl ?_
   unfold Oper.wp
   rw[hrun,Oper.upon_value];refine Qco hL f _ c' _ (D.app s) ?_ hT;rw[h3];exact hr'.put (fun d q=>by cases q;exact h4) hv
def Qm8:List (List Nat×Nat)→List (Nat×Bool)
 |[]=>[]
 |(hd,e)::r=>hd.map (fun i=>(i,false))++(e,true)::Qm8 r
def Qwy (P:Program)(E:X7)(ops:Array Oper)(T:St→Prop)(l0:List Oper):List (List Nat×Nat)→St→Prop
 |[],s=>T s
 |(hd,e)::r,s=>∃o,l0[e]?=some o∧JE P E ops (FK P E ops o (Qwy P E ops T l0 r)) (QbV l0 hd) s
theorem Qrc {T:St→Prop}{l0:List Oper}{r:List (Nat×Bool)}:∀(hd:List Nat) (s:St),(hd.all fun i=>(l0[i]?).isSome)=true→JE P E ops (AM P E ops T l0 r) (QbV l0 hd) s→AM P E ops T l0 (hd.map (fun i=>(i,false))++r) s
 |[],s,_,h=>h
 |i::hd,s,hs,h=>by
  simp only[List.all_cons,Bool.and_eq_true] at hs
  obtain⟨o,ho⟩:=Option.isSome_iff_exists.1 hs.1
  simp only[QbV,ho] at h
  obtain⟨x,hy,hK⟩:=h
  show AM P E ops T l0 ((i,false)::(hd.map (fun i=>(i,false))++r)) s
  simp only[AM,ho]
  exact⟨x,hy,Qrc hd _ hs.2 hK⟩
theorem JE.mono {K K':St→Prop}(h:∀s,K s→K' s):∀(l:List Oper) (s:St),JE P E ops K l s→JE P E ops K' l s
 |[],s,hh=>h s hh
 |_::l,_,⟨x,hy,hh⟩=>⟨x,hy,JE.mono h l _ hh⟩
theorem QjI {T:St→Prop}{l0:List Oper}:∀(g:List (List Nat×Nat)) (s:St),(g.all fun p=>p.1.all fun i=>(l0[i]?).isSome)=true→Qwy P E ops T l0 g s→AM P E ops T l0 (Qm8 g) s
 |[],s,_,h=>h
 |(hd,e)::r,s,hs,h=>by
  simp only[List.all_cons,Bool.and_eq_true] at hs
  obtain⟨o,ho,h⟩:=h;refine Qrc hd s hs.1 (JE.mono (fun s' h'=>?_) _ _ h)
  simp only[AM,ho]
  obtain⟨D,h1,h2⟩:=h';exact⟨D,h1,QjI r _ hs.2 h2⟩
theorem Qis {Q:Exit→St→Prop}{st:St}{id:Nat}{l:List Oper}(g:List (List Nat×Nat))(tl:List Nat)(hm:P.follows .mixedOrders=true)(hB:QxB .any l.toArray (Qm8 g) tl=true)(hS:(g.all fun p=>p.1.all fun i=>(l[i]?).isSome)=true)
  (h:Qwy P E l.toArray (Q3 P E l.toArray (QbV l tl) Q) l g st):Y1 P E (.region id l.toArray true) Q st:=fun c a hr=>by
 simp only[QxB,Bool.and_eq_true,List.all_eq_true,Bool.or_eq_true,List.contains_iff_mem,List.mem_range,Bool.not_eq_true'] at hB
 obtain⟨⟨⟨h1,h2⟩,h3⟩,h5⟩:=hB
 have nb:∀ {m n:Nat},Nat.beq m n=false→m≠n:=fun {m n} h q=>by subst q;rw[Nat.beq_refl] at h;cases h
 have hsz:=Nat.eq_of_beq_eq_true h5
 have nc:∀ {p:Nat×Bool},(Qm8 g).contains p=false→p∉Qm8 g:=fun {p} h q=>by rw[List.contains_iff_mem.2 q] at h;cases h
 have inv0:HeadInv .any l.toArray l.toArray.size (Array.replicate l.toArray.size false):=
  ⟨by simp,fun j oj _ hl=>(by rw[getD_replicate_false] at hl;cases hl),fun t h1 h2=>absurd h1 (by omega)⟩
 have H:=Qit (P:=P) (E:=E) (md:=.any) (l0:=l) rfl (sq:=Qm8 g) (tl:=tl) (Qd3 (P:=P) (E:=E) (Q:=Q) (QbV l tl)) (fun j hj=>by
   rcases h2 j hj with (h2|h2)|h2
   ·exact .inl h2
   ·exact .inr (.inl h2)
   exact .inr (.inr h2)) (fun j hj=>⟨nc (h3 j hj).1.1,nc (h3 j hj).1.2,fun i hi=>by
   rcases(h3 j hj).2 (i,false) hi with q|q
   ·cases q
   exact⟨nb q.2,q.1⟩⟩) (Qm8 g) _ st (fun _ h=>h) inv0 h1 (QjI g st hS h)
 refine wp_region_any hm ?_
 have hr1:=hr.drew
 have:=Qco (md:=.any) (Q':=QfB E Q) (g:=tl.length) (fun listed c a s hr hL=>Qck rfl tl listed a c.w hL.1 (hL.2 c a hr)) _ _ _ _ _ hr1 H
 rw[hsz] at this;exact this
end
open Go.RowKit Go.Shelf
def QnF (l:List Int)(i:Nat)(x:Int):List Int:=l.take i++x::l.drop i
section
variable {P:Program}{E:X7}{Q:Exit→St→Prop}{ops:Array Oper}{o:Oper}{rest:List Oper}{t:List (Nat×AV)}{H:List (Nat×Qj)}{nx N d:Nat}{w:Bool}
variable {c:Cx}{a:Act}{st:St}
theorem QmZ {cur:Array Value}{l:List Value}(_:l.length≤cur.size)(h:∀i,i<l.length→cur[i]?=l[i]?):cur.toList.take l.length=l:=by
 apply List.ext_getElem?
 intro i;rw[List.getElem?_take]
 by_cases hi:i<l.length
 ·rw[if_pos hi,Array.getElem?_toList];exact h i hi
 ·rw[if_neg hi,List.getElem?_eq_none (by omega)]
end
section
variable {P:Program}{E:X7}{st:St}{o:Oper}{c:Cx}{a:Act}
theorem Jk.own_val {st':St}(hr:Jk E c a st'){q m:Nat}{te:TypeId}{k:Nat}{es:List (List AV)}(hq:Qb st'.H q=some (.arr te k es))(hm:m=es.length){v:Value}(hv:VR c v (.own q m)):
  ∃xs,c.w.ownsRow 0 te k v m xs∧c.V q=some v:=by
 obtain⟨hk,v0,hv0,hor,-⟩:=hr.live q _ hq
 cases hor with
 |arr _ _ _ _ xs hown _ _ _=>
  obtain⟨A0,cap0,hA0⟩:=Y3 hown
  have:v=v0:=by
   cases hv with
   |fr _ _ h=>cases h
   |own _ _ _ hK hV=>rw[(hV A0 _ cap0 (by rw[hv0,hA0])).2 hm,hA0]
  subst this hm
  exact⟨xs,hown,hv0⟩
theorem YD {x:Operand}{tt:TypeId}(ho:o.op=.call { callee:=.builtin .len,args := #[x],argTypes := #[tt] }){e:TypeId}{n:Nat}[hT:JJ P tt e n]{q m:Nat}(hx:X4 st x=some (.own q m)){te:TypeId}{k:Nat}{es:List (List AV)}(hq:Qb st.H q=some (.arr te k es))(hm:m=es.length):PY P E o st (.p (.int .i64 (m:Nat))):=by
 refine Kh fun st' h1 h2 c a hr=>?_
 have hv:=hr.ev x
 rw[h1 x (by simp[ho,Op.operands,Call.operands]),QZ hx] at hv;obtain⟨xs,hown,-⟩:=hr.own_val (h2 q _ hq rfl) hm hv;obtain⟨A,cap,hA⟩:=Y3 hown;refine⟨.int .i64 (m:Nat),?_,.fr _ _ (.p _)⟩
 simp[execOp,ho,resolve,invoke,builtin,Builtin.len_,hA,run_underlying (Xq hT.h),goInt]
theorem QU {tt:TypeId}{x ix:Operand}(ho:o.op=.indexAddr tt x ix){e:TypeId}{k:Nat}[hT:JJ P tt e k]{q m:Nat}(hx:X4 st x=some (.own q m)){kk:IntKind}{i:Int}(hi:X4 st ix=some (.p (.int kk i))){te:TypeId}{es:List (List AV)}(hq:Qb st.H q=some (.arr te k es))(hm:m=es.length)
  (j:Nat) (hij:i=(j:Int)) (hj:j<m):PY P E o st (.eptr q m (j*k)):=by
 refine Kh fun st' h1 h2 c a hr=>?_
 have hv:=hr.ev x
 rw[h1 x (by simp[ho,Op.operands]),QZ hx] at hv
 have hvi:=hr.ev ix
 rw[h1 ix (by simp[ho,Op.operands]),QZ hi] at hvi
 have hvi:=hvi.p_inv
 have hq':=h2 q _ hq rfl
 obtain⟨hKq,-⟩:=hr.live q _ hq';obtain⟨xs,hown,hV⟩:=hr.own_val hq' hm hv
 rcases hown.2 with ⟨hn,h0⟩|⟨g,cap,cur,hvs,-,-,-⟩
 ·omega
 subst hij
 refine⟨.pointer (some ⟨g,j*k,none⟩),?_,.eptr _ _ _ _ hKq fun A n' cap' hh=>?_⟩
 ·simp[execOp,ho,Instr.indexAt,hvi,hvs,asIntOf,run_underlying (Xq hT.h),hj,X6 hT.size,Addr.add_mk]
 rw[hV,hvs] at hh
 cases hh
 exact⟨Nat.le_refl _,fun _=>⟨g,rfl,rfl⟩⟩
end
end Go.Proofs.YtnkkokmmeplbgaaGreat
