/-
  Calls of which only what they leave unturned is known (not t
-/
import Derived.Test.YtnkkokmmeplbgaaGreatA8
import Derived.Test.YtnkkokmmeplbgaaGreatA7
import Derived.Test.YtnkkokmmeplbgaaGreatA4
import Derived.Test.YtnkkokmmeplbgaaGreatA3
namespace Go.Proofs.YtnkkokmmeplbgaaGreat
open Go.RowKit
section
variable {c:Cx}{E:X7}{a:Act}{st:St}
end
section
variable {P:Program}{E:X7}{Q:Exit→St→Prop}{ops:Array Oper}{o:Oper}{rest:List Oper}{t:List (Nat×AV)}{H:List (Nat×Qj)}{nx N d:Nat}{w:Bool}
end
section
variable {P:Program}{E:X7}{Q:Exit→St→Prop}{ops:Array Oper}{o:Oper}{rest:List Oper}{t:List (Nat×AV)}{H:List (Nat×Qj)}{nx N d:Nat}{w:Bool}
end
section
variable {P:Program}{E:X7}{ops:Array Oper}{md:Region.Mode}
def AU (P:Program)(E:X7)(ops:Array Oper)(md:Region.Mode)(Q:Exit→St→Prop):Nat→Array Bool→St→Prop
 |0,listed,s=>Region.ready md ops listed=[]∧Q .normal s
 |f+1,listed,s=>(∃i oi x,ops[i]?=some oi∧(Region.ready md ops listed).contains i=true∧Region.free md ops listed i=true∧WI P E ops oi x s∧AU P E ops md Q f (listed.setIfInBounds i true) (s.put oi.dst x)) ∨
  ((Region.ready md ops listed=[]→Q .normal s)∧∀i∈Region.ready md ops listed,aOp P E ops i (AU P E ops md Q f (listed.setIfInBounds i true)) s∨aSt P E ops i (AU P E ops md Q f (listed.setIfInBounds i true)) s∨aNw P E ops i (AU P E ops md Q f (listed.setIfInBounds i true)) s)
theorem Qa4 {Q:Exit→St→Prop}(hs:Region.noSelect ops=true)(hQ:∀c s,Q (.panic c) s→False):∀(f:Nat) (listed:Array Bool) (c:Cx) (a:Act) (s:St),Jk E c a s→AU P E ops md Q f listed s→wpAny P md ops (QfB E Q) f listed a c.w
 |0,_,c,_,s,hr,h=>⟨h.1,c,s,rfl,hr,h.2⟩
 |f+1,listed,c,a,s,hr,h=>by
  rcases h with ⟨i,oi,x,hoi,hrd,hfr,⟨hd,hwi⟩,hk⟩|h
  ·obtain⟨v,hy,hv⟩:=hwi c a hr
   exact wpAny_take hoi hs hfr hrd (fun c' a' w' ⟨c2,s2,_,_,hq⟩=>(hQ c' s2 hq).elim) hy (Qa4 hs hQ f _ c _ _ (hr.put hd hv) hk)
  refine⟨fun h0=>⟨c,s,rfl,hr,h.1 h0⟩,fun i hi=>?_⟩
  rcases h.2 i hi with h1|⟨o,s',ho,hw,hd,hrun,hk⟩|⟨o,s',x,ho,hw,hd,hrun,hk⟩
  ·exact KR hr (fun c' a' s' hr' h'=>Qa4 hs hQ f _ c' a' s' hr' h') h1
  ·unfold wpOp
   simp only[ho]
   rw[Xx hw hr,if_pos rfl];obtain⟨c',hrun',hr'⟩:=hrun c a hr;refine .inl ?_
   unfold Oper.wp
   rw[hrun',Oper.upon_skip,hd];exact Qa4 hs hQ f _ c' _ s' hr' hk
  unfold wpOp
  simp only[ho]
  rw[Xx hw hr,if_pos rfl];exact .inl (hrun c a hr _ _ fun c' v hr' hv=>Qa4 hs hQ f _ c' _ _ (hr'.put hd hv) hk)
theorem Qew {Q:Exit→St→Prop}{st:St}{id:Nat}{l:List Oper}(n:Nat)(hn:l.toArray.size=n)(hm:P.follows .mixedOrders=true)(hs:Region.noSelect l.toArray=true)(hQ:∀c s,Q (.panic c) s→False)(h:AU P E l.toArray .any Q n (Array.replicate n false) st):Y1 P E (.region id l.toArray true) Q st:=fun c a hr=>by
 subst hn
 exact wp_region_any hm (Qa4 hs hQ _ _ _ _ _ hr.drew h)
def QwN (P:Program)(E:X7)(ops:Array Oper)(md:Region.Mode)(Q:Exit→St→Prop)(f:Nat)(listed:Array Bool)(s:St):List Nat→Prop
 |[]=>True
 |i::r=>(aOp P E ops i (AU P E ops md Q f (listed.setIfInBounds i true)) s∨aSt P E ops i (AU P E ops md Q f (listed.setIfInBounds i true)) s∨aNw P E ops i (AU P E ops md Q f (listed.setIfInBounds i true)) s)∧QwN P E ops md Q f listed s r
theorem Qi {Q:Exit→St→Prop}{f:Nat}{listed:Array Bool}{s:St}(rs:List Nat)(hr:Region.ready md ops listed=rs)(hne:rs.isEmpty=false)(h:QwN P E ops md Q f listed s rs):AU P E ops md Q (f+1) listed s:=by
 have key:∀(rs:List Nat),QwN P E ops md Q f listed s rs→∀i∈rs,aOp P E ops i (AU P E ops md Q f (listed.setIfInBounds i true)) s∨aSt P E ops i (AU P E ops md Q f (listed.setIfInBounds i true)) s∨aNw P E ops i (AU P E ops md Q f (listed.setIfInBounds i true)) s:=by
  intro rs
  induction rs with
  |nil=>intro _ i hi;cases hi
  |cons j r ih=>
   rintro⟨h1,h2⟩ i hi
   rcases List.mem_cons.1 hi with rfl|hi
   ·exact h1
   exact ih h2 i hi
 refine .inr ⟨fun h0=>?_,fun i hi=>key rs h i (hr▸hi)⟩
 rw[h0] at hr;subst hr;cases hne
theorem Qu5 {Q:Exit→St→Prop}{listed:Array Bool}{s:St}(hr:Region.ready md ops listed=[])(h:Q .normal s):AU P E ops md Q 0 listed s:=⟨hr,h⟩
variable {o:Oper}{t:List (Nat×AV)}{H:List (Nat×Qj)}{nx N d:Nat}{w:Bool}{T:St→Prop}{i:Nat}
theorem Xg {Q:Exit→St→Prop}{f:Nat}{listed:Array Bool}(i:Nat)(hi:ops[i]?=some o)(hr:(Region.ready md ops listed).contains i=true)(hf:Region.free md ops listed i=true){x:AV}(hd:o.dst=some d)(hy:WI P E ops o x ⟨t,H,nx⟩)
  (h:AU P E ops md Q f (listed.setIfInBounds i true) ⟨(d,x)::t,H,nx⟩):AU P E ops md Q (f+1) listed ⟨t,H,nx⟩:=.inl ⟨i,o,x,hi,hr,hf,hy,by rw[hd];exact h⟩
theorem QvT {s s':St}{x:AV}(hi:ops[i]?=some o)(hg:Qo ops s o=some true)(hd:Qi5 E o)(h:∀c a,Jk E c a s→∃v,∃c':Cx,(execOp a.eval o).run P c.w=.ok (.value v) c'.w∧Jk E c' a s'∧VR c' v x)(hT:T (s'.put o.dst x)):aNw P E ops i T s:=
 ⟨o,s',x,hi,hg,hd,fun c a hr K Q hK=>by
  obtain⟨v,c',h1,h2,h3⟩:=h c a hr
  unfold Oper.wp
  rw[h1,Oper.upon_value]
  exact hK c' v h2 h3,hT⟩
theorem YU (hN:E.N=N)(hi0:ops[i]?=some o)(hB:Nat.blt nx Qf=true){tt e:TypeId}{n:Nat}[hT:JJ P tt e n](ho:o.op=.buildSlice tt 0 #[])
  (hg:Qo ops ⟨t,H,nx⟩ o=some w) (hw:w=true) (hd:o.dst=some d) (hdN:Nat.blt d N=true)
  (h:T ⟨(d,.own nx 0)::t,(nx,.arr e n [])::H,nx+1⟩):aNw P E ops i T ⟨t,H,nx⟩:=by
 subst hw
 refine QvT (s':=⟨t,(nx,.arr e n [])::H,nx+1⟩) (x:=.own nx 0) hi0 hg (dlt hN hd hdN) (fun c a hr=>?_) (by rw[hd];exact h);obtain⟨i,hi,hsz⟩:=JD hT.size
 have hs1:(sizeOf e).run P c.w=.ok i.size c.w:=by simp[sizeOf,typeInfo,hi]
 have hrun:(execOp a.eval o).run P c.w=.ok (.value (.slice (some ⟨c.w.heap.size,0,none⟩) 0 0)) (c.w.alloc (.cells #[] e)):=by
  simp[execOp,ho,Sem.run_bind,Instr.buildSlice,run_underlying (Xq hT.h),Result.andThen_ok,hs1,newRow,Instr.fill]
  congr 2;apply Array.ext<;>simp
 have hown:(c.w.alloc (.cells #[] e)).ownsRow 0 e n (.slice (some ⟨c.w.heap.size,0,none⟩) 0 0) 0 []:=
  ⟨by simp,.inr ⟨c.w.heap.size,0,#[],rfl,Nat.zero_le _,WB _ _ _,Nat.le_refl _,Nat.zero_le _,by simp,by simp⟩⟩
 obtain⟨c',e1,e2,hle,e4,e5,hr'⟩:=hr.new (Nat.le_of_ble_eq_true hB) (KA c.w (.cells #[] e)) (.slice (some ⟨c.w.heap.size,0,none⟩) 0 0) (.arr e n [])
  (fun c' e1 e2 hle=>.arr _ e n [] [] (by rw[e1];exact hown) (by simp) (by simp) (fun b hb off hs=>by
   rw[e2] at hs
   have:c.w.heap.size=b:=by simpa [Xd] using hb
   subst this
   exact Nat.lt_irrefl _ (hr.Ssz _ _ hs))) (fun b hb=>by
   have:c.w.heap.size=b:=by simpa [Xd] using hb
   omega)
 refine⟨_,c',by rw[e1];exact hrun,hr',.own _ _ _ e4 (fun A n' cap hh=>?_)⟩;rw[show c'.V nx=some _ from e5] at hh
 cases hh
 exact⟨Nat.le_refl _,fun _=>rfl⟩
theorem Qr9 (hN:E.N=N)(hi0:ops[i]?=some o)(hB:Nat.blt nx Qf=true){tt:TypeId}(ho:o.op=.alloc tt){zs:List Value}[hz:Xa P tt zs](hg:Qo ops ⟨t,H,nx⟩ o=some w)(hw:w=true)(hd:o.dst=some d)(hdN:Nat.blt d N=true)
  (h:T ⟨(d,.ptr nx 0)::t,(nx,.var tt (zs.map .p))::H,nx+1⟩):aNw P E ops i T ⟨t,H,nx⟩:=by
 subst hw
 refine QvT (s':=⟨t,(nx,.var tt (zs.map .p))::H,nx+1⟩) (x:=.ptr nx 0) hi0 hg (dlt hN hd hdN) (fun c a hr=>?_) (by rw[hd];exact h)
 have hzs:=hz.h
 cases hi:P.info? tt with
 |none=>simp[hi] at hzs
 |some i=>
  cases hz0:i.zero with
  |none=>simp[hi,hz0] at hzs
  |some z=>
   have hzc:z.cells.toList=zs:=by simpa [hi,hz0] using hzs
   obtain⟨c',e1,-,hle,hK,hV,hr'⟩:=hr.new (Nat.le_of_ble_eq_true hB) (KA c.w (.cells z.cells tt)) (.pointer (some ⟨c.w.heap.size,0,none⟩)) (.var tt (zs.map .p))
    (fun c' e1 e2 hle=>.var c.w.heap.size z.cells tt _ (by rw[e1];exact WB _ _ _) (by rw[←hzc];simp) (fun j u y hi hj=>by
     rw[←hzc,List.getElem?_map] at hj
     have hi':z.cells.toList[j]?=some u:=by simpa using hi
     rw[hi'] at hj
     cases hj
     exact .fr _ _ (.p u)) (fun off hs=>by
     rw[e2] at hs
     exact Nat.lt_irrefl _ (hr.Ssz _ _ hs))) (fun b hb=>by simp[Xd] at hb;omega)
   refine⟨.pointer (some ⟨c.w.heap.size,0,none⟩),c',?_,hr',.ptr _ _ _ hK fun b hb=>?_⟩
   ·rw[e1]
    simp[execOp,ho,Instr.alloc,zeroValue,typeInfo,hi,hz0,newVar,newRow]
   rw[hV] at hb
   simpa using hb
theorem Jp (hN:E.N=N){s0:St}{s f:Nat}{x:Operand}(ho:o.op=.fieldAddr s x f){off n:Nat}{row:Bool}[hT:Q4 P s f off n row]{ax y:AV}(hx:X4 s0 x=some ax){ys:List AV}(hc:s0.at_ ax=some (y::ys)){r:AV}(hm:moved off ax=some r)
  (hg:Qo ops s0 o=some w) (hw:w=true) (hd:o.dst=some d) (hdN:Nat.blt d N=true):WI P E ops o r s0:=QgP hN hg hw hd hdN fun c a hr=>by
 have hv:=hr.ev x
 rw[QZ hx] at hv;obtain⟨b,off0,hat⟩:=hr.at_ hv hc;obtain⟨hp,_⟩:=hat 0 _ rfl;rw[hp] at hv;obtain⟨ft,h3,h4,_⟩:=hT.h
 have hpos:=hT.pos
 refine⟨.pointer (some ⟨b,off0+off,none⟩),fun w=>?_,hv.moved hm⟩
 unfold Qf3 at h3
 split at h3
 ·rename_i fs hfs
  cases hfl:fs[f]? with
  |none=>rw[hfl] at h3;cases h3
  |some fl=>
   rw[hfl] at h3
   simp only[Option.map_some,Option.some.injEq,Prod.mk.injEq] at h3
   obtain⟨e1,e2⟩:=h3
   subst e1 e2
   have hz:n≠0:=by omega
   simp[execOp,ho,hp,Instr.fieldAt,run_underlying hfs,hfl,Instr.sureAddr,fieldPlace,X6 h4,hz,Addr.add_mk]
 cases h3
theorem Qlk (hN:E.N=N){st:St}(t:TypeId)(x:Operand)(lo hi:Option Operand)(ho:o.op=.slice t x lo hi none){e:TypeId}{n:Nat}[hT:JJ P t e n](es:List (List AV))(tk:Option Nat)(hx:st.ev x=.sl es tk)
  (l h:Nat) (hlo:lo=none∧l=0∨∃y k,lo=some y∧st.ev y=.p (.int k (l:Int))) (hhi:hi=none∧h=es.length∨∃y k,hi=some y∧st.ev y=.p (.int k (h:Int))) (hlh:l≤h) (hh:h≤es.length) (hn:∀e∈es,e.length=n)
  (hg:Qo ops st o=some w) (hw:w=true) (hd:o.dst=some d) (hdN:Nat.blt d N=true):WI P E ops o (.sl ((es.take h).drop l) none) st:=QgP hN hg hw hd hdN fun c a hr=>by
 have hv:=hr.ev x
 rw[hx] at hv
 have hfr:=hv.sl_inv
 generalize hvx:a.eval x=vx at *
 have hlen:((es.take h).drop l).length=h-l:=by simp;omega
 cases hfr with
 |sl A m cc k' _ b off f hl hm hcc hA hk hcell hfr=>
  subst hl
  have hlv:(lo.map a.eval=none∧l=0)∨∃k,lo.map a.eval=some (.int k (l:Int)):=by
   rcases hlo with ⟨e1,e2⟩|⟨y,k,e1,e2⟩
   ·exact .inl ⟨by rw[e1];rfl,e2⟩
   have:=hr.ev y
   rw[e2] at this;exact .inr ⟨k,by rw[e1,Option.map_some,this.p_inv]⟩
  have hhv:(hi.map a.eval=none∧h=es.length)∨∃k,hi.map a.eval=some (.int k (h:Int)):=by
   rcases hhi with ⟨e1,e2⟩|⟨y,k,e1,e2⟩
   ·exact .inl ⟨by rw[e1];rfl,e2⟩
   have:=hr.ev y
   rw[e2] at this;exact .inr ⟨k,by rw[e1,Option.map_some,this.p_inv]⟩
  refine⟨.slice (if cc=l then A else A.map (·.add (l*n))) (h-l) (cc-l),fun w=>?_,.fr _ _ (.sl _ (h-l) (cc-l) n _ b (off+l*n) (fun j q=>f (l+j) q) hlen (by omega) (by omega) (fun hpos=>?_) (fun j e' hj=>?_) (fun j e' q y hj hq=>?_) (fun j e' q y hj hq=>?_))⟩
  ·have hb:(Instr.sliceBounds true es.length cc (lo.map a.eval) (hi.map a.eval) none).run P w=.ok (l,h,cc) w:=by
    have hle:h≤cc:=by omega
    rcases hlv with ⟨e1,e2⟩|⟨k1,e1⟩<;>rcases hhv with ⟨e3,e4⟩|⟨k2,e3⟩
    ·subst e2 e4;simp[Instr.sliceBounds,e1,e3]
    ·subst e2;simp[Instr.sliceBounds,e1,e3,Instr.sliceBound,asIntOf,hle]
    ·subst e4;simp[Instr.sliceBounds,e1,e3,Instr.sliceBound,asIntOf,hlh]
    simp[Instr.sliceBounds,e1,e3,Instr.sliceBound,asIntOf,hlh,hle]
   simp[execOp,ho,Instr.sliceAt,Instr.slice,hvx,run_underlying (Xq hT.h),hb,X6 hT.size]
  ·rw[hA (by omega),if_neg (by omega),Option.map_some,Addr.add_mk]
  ·rw[List.getElem?_drop,List.getElem?_take] at hj
   split at hj
   ·exact hn e' (List.mem_of_getElem? hj)
   cases hj
  ·rw[List.getElem?_drop,List.getElem?_take] at hj
   split at hj
   ·have hk':k'=n:=by rw[←hk _ _ hj];exact hn e' (List.mem_of_getElem? hj)
    subst hk'
    have:=hcell _ _ q y hj hq
    rwa [Nat.add_mul,←Nat.add_assoc] at this
   cases hj
  rw[List.getElem?_drop,List.getElem?_take] at hj
  split at hj
  ·exact hfr _ _ q y hj hq
  cases hj
end
section
variable {P:Program}{E:X7}{ops:Array Oper}{o:Oper}{t:List (Nat×AV)}{H:List (Nat×Qj)}{nx N d:Nat}{w:Bool}{T:St→Prop}{i:Nat}
theorem Qdh (hN:E.N=N){s:St}{x:Operand}{j:Nat}(ho:o.op=.extract x j){xs:List AV}(hx:X4 s x=some (.tup xs)){r:AV}(hj:xs[j]?=some r)(hg:Qo ops s o=some w)(hw:w=true)(hd:o.dst=some d)(hdN:Nat.blt d N=true):WI P E ops o r s:=QgP hN hg hw hd hdN fun c a hr=>by
 have hv:=hr.ev x
 rw[QZ hx] at hv
 generalize hvx:a.eval x=vx at *
 have key:∃vs:List Value,vx=.tuple vs.toArray∧vs.length=xs.length∧∀(i:Nat) (v:Value) (x:AV),vs[i]?=some v→xs[i]?=some x→VR c v x:=by
  cases hv with
  |fr _ _ h=>cases h with|tup vs _ hl h=>exact⟨vs,rfl,hl,fun i v x h1 h2=>.fr _ _ (h i v x h1 h2)⟩
  |tup vs _ hl h=>exact⟨vs,rfl,hl,h⟩
 obtain⟨vs,rfl,hl,hp⟩:=key
 have hiv:j<vs.length:=by have:=(List.getElem?_eq_some_iff.1 hj).1;omega
 exact⟨vs[j],fun w=>by simp[execOp,ho,hvx,Instr.extract,hiv],hp j _ _ (List.getElem?_eq_getElem hiv) hj⟩
variable {α:Type}{f:α→List AV}{l:List α}{n:Nat}{s:St}
theorem QeO (hN:E.N=N){tt:TypeId}{x y:Operand}(ho:o.op=.slice tt x none (some y) none){e:TypeId}[hT:JJ P tt e n]{tk:Option Nat}(hx:X4 s x=some (.sl (l.map f) tk)){k:IntKind}{j:Int}(hy:X4 s y=some (.p (.int k j)))
  (h:Nat) (hi:j=(h:Int)) (hh:h≤l.length) (hn:∀a,(f a).length=n) (hg:Qo ops s o=some w) (hw:w=true) (hd:o.dst=some d) (hdN:Nat.blt d N=true):WI P E ops o (.sl ((l.take h).map f) none) s:=by
 have:=Qlk (P:=P) (E:=E) (ops:=ops) hN tt x none (some y) ho (l.map f) tk (QZ hx) 0 h (.inl ⟨rfl,rfl⟩) (.inr ⟨y,k,rfl,by rw[QZ hy,hi]⟩) (Nat.zero_le _) (by simpa using hh) (Qf8 hn) hg hw hd hdN
 simpa [List.map_take] using this
theorem KI (hN:E.N=N){tt:TypeId}{x y:Operand}(ho:o.op=.slice tt x (some y) none none){e:TypeId}[hT:JJ P tt e n]{tk:Option Nat}(hx:X4 s x=some (.sl (l.map f) tk)){k:IntKind}{j:Int}(hy:X4 s y=some (.p (.int k j)))
  (h:Nat) (hi:j=(h:Int)) (hh:h≤l.length) (hn:∀a,(f a).length=n) (hg:Qo ops s o=some w) (hw:w=true) (hd:o.dst=some d) (hdN:Nat.blt d N=true):WI P E ops o (.sl ((l.drop h).map f) none) s:=by
 have:=Qlk (P:=P) (E:=E) (ops:=ops) hN tt x (some y) none ho (l.map f) tk (QZ hx) h (l.map f).length (.inr ⟨y,k,rfl,by rw[QZ hy,hi]⟩) (.inl ⟨rfl,rfl⟩) (by simpa using hh) (Nat.le_refl _) (Qf8 hn) hg hw hd hdN
 rw[List.take_length] at this
 simpa [List.map_drop] using this
end
def FCb (P:Program)(f:FuncId)(args:List AV)(res:AV):Prop:=
 ∀(w:World) (S:Nat→Nat→Prop) (vs:List Value),(∀b o,S b o→b<w.heap.size)→FRs w S vs args →
  Calls P f vs.toArray w fun e w'=>∃v S',e=.returned v∧Below w.heap.size w w'∧(∀b o,S b o→S' b o) ∧
   (∀b o,S' b o→S b o∨(w.heap.size≤b∧b<w'.heap.size))∧FR w' S' v res
theorem FC.b {P:Program}{f:FuncId}{args:List AV}{res:AV}(h:FC P f args res):FCb P f args res:=fun w S vs hS hv=>
 (h w S vs hS hv).mono fun _ _ ⟨v,S',h1,h2,h3,h4,h5⟩=>⟨v,S',h1,h2.toBelow,h3,h4,h5⟩
section
variable {c:Cx}{E:X7}{a:Act}{st:St}
end
section
variable {P:Program}{E:X7}{o:Oper}{st:St}
end
theorem QcI {E:X7}{t:List (Nat×AV)}{H:List (Nat×Qj)}{nx:Nat}(i:Nat)(h:Qb t i=some (.p (.slice none 0 0))):Kj E ⟨t,H,nx⟩ ⟨(i,.sl [] none)::t,H,nx⟩:=fun c a hr=>by
 refine⟨c,rfl,{ hr with live:=hr.live,dead:=hr.dead,tmps:=fun j=>?_ }⟩
 have hj:=hr.tmps j
 show VR c _ ((Qb ((i,AV.sl [] none)::t) j).getD .bot)
 rw[Qn]
 split
 ·rename_i e
  subst e
  rw[show St.get ⟨t,H,nx⟩ j=.p (.slice none 0 0) by simp[St.get,h]] at hj;rw[hj.p_inv];exact .fr _ _ (.nil _ _ _ _ (Nat.zero_le _))
 exact hj
section
variable {P:Program}{E:X7}{ops:Array Oper}{md:Region.Mode}{Q:Exit→St→Prop}{f:Nat}{listed:Array Bool}{o:Oper}{t:List (Nat×AV)}{H:List (Nat×Qj)}{nx N d:Nat}{w:Bool}{x:Operand}{r:AV}
theorem yM (i:Nat)(h:AU P E ops md Q f (listed.setIfInBounds i true) ⟨(d,r)::t,H,nx⟩)(hi:ops[i]?=some o:=by rfl)(hN:E.N=N:=by assumption)(hr:(Region.ready md ops listed).contains i=true:=by kernel_rfl)(hf:Region.free md ops listed i=true:=by kernel_rfl)(ho:o.op=.move x:=by rfl)(hx:X4 ⟨t,H,nx⟩ x=some r:=by rfl)(hg:Qo ops ⟨t,H,nx⟩ o=some true:=by rfl)(hd:o.dst=some d:=by rfl)(hdN:Nat.blt d N=true:=by rfl):AU P E ops md Q (f+1) listed ⟨t,H,nx⟩:=Xg i hi hr hf hd (Y4 hN ho hx hg rfl hd hdN) h
theorem yS (i:Nat){tt:TypeId}{x y:Operand}{n:Nat}{row:Bool}{q off:Nat}{t':TypeId}{cs:List AV}{ay:AV}{ys cs':List AV}(h:AU P E ops md Q f (listed.setIfInBounds i true) ⟨t,(q,.var t' cs')::H,nx⟩)(hr:Region.ready md ops listed=[i]:=by kernel_rfl)(hi:ops[i]?=some o:=by rfl)(ho:o.op=.store tt x y:=by rfl)(hT:XV P tt n row:=by infer_instance)(hx:X4 ⟨t,H,nx⟩ x=some (.ptr q off):=by rfl)(hq:Qb H q=some (.var t' cs):=by rfl)(hy:X4 ⟨t,H,nx⟩ y=some ay:=by rfl)(hc:St.cells1 ⟨t,H,nx⟩ ay=some ys:=by rfl)(hn:ys.length=n:=by rfl)(hle:off+ys.length≤cs.length:=by exact Nat.le_of_ble_eq_true rfl)(hg:Qo ops ⟨t,H,nx⟩ o=some true:=by rfl)(hd:o.dst=none:=by rfl)(hs:Yq cs off ys=cs':=by rfl):AU P E ops md Q (f+1) listed ⟨t,H,nx⟩:=
 Qi [i] hr rfl ⟨.inr (.inl (Xs hi ho hx hq hy hc hn hle hg rfl hd hs h)),trivial⟩
theorem yP (i:Nat)(hi:ops[i]?=some o)(hy:PY P E o ⟨t,H,nx⟩ r)(h:AU P E ops md Q f (listed.setIfInBounds i true) ⟨(d,r)::t,H,nx⟩)(hN:E.N=N:=by assumption)(hr:Region.ready md ops listed=[i]:=by kernel_rfl)(hg:Qo ops ⟨t,H,nx⟩ o=some true:=by rfl)(hd:o.dst=some d:=by rfl)(hdN:Nat.blt d N=true:=by rfl):AU P E ops md Q (f+1) listed ⟨t,H,nx⟩:=
 Qi [i] hr rfl ⟨.inl (QG hi (zp hy h hN hg hd hdN)),trivial⟩
theorem yL (i:Nat){tt:TypeId}{n:Nat}{row:Bool}{ax:AV}{cs:List AV}(h:AU P E ops md Q f (listed.setIfInBounds i true) ⟨(d,r)::t,H,nx⟩)(hr:Region.ready md ops listed=[i]:=by kernel_rfl)(hi:ops[i]?=some o:=by rfl)(hN:E.N=N:=by assumption)(ho:o.op=.load tt x:=by rfl)(hT:XV P tt n row:=by infer_instance)(hx:X4 ⟨t,H,nx⟩ x=some ax:=by rfl)(hc:St.at_ ⟨t,H,nx⟩ ax=some cs:=by rfl)(hl:W7 row n cs=some r:=by rfl)(hn:Nat.blt 0 n=true:=by rfl)(hg:Qo ops ⟨t,H,nx⟩ o=some true:=by rfl)(hd:o.dst=some d:=by rfl)(hdN:Nat.blt d N=true:=by rfl):AU P E ops md Q (f+1) listed ⟨t,H,nx⟩:=
 Qi [i] hr rfl ⟨.inl (QG hi (Xh hN (Xc ho hx hc hl hn) hg rfl hd hdN h)),trivial⟩
theorem yD (h:Q .normal ⟨t,H,nx⟩)(hr:Region.ready md ops listed=[]:=by kernel_rfl):AU P E ops md Q 0 listed ⟨t,H,nx⟩:=Qu5 hr h
end
end Go.Proofs.YtnkkokmmeplbgaaGreat
