/-
  Abstract values: what a value of the machine reads as. Froze
-/
import Derived.WalkKit
import Derived.Lib.Hide
import Derived.Below
import Derived.Laws.OwnMore
import Derived.Deep.MidRow
import Derived.IntWalk
import Derived.Laws.Strings
namespace Go.Proofs.YtnkkokmmeplbgaaGreat
open Go.RowKit
inductive AV where
 |bot
 |p (v:Value)
 |emp
 |sl (es:List (List AV)) (tk:Option Nat)
 |agg (cs:List AV)
 |tup (vs:List AV)
 |el (cs:List AV)
 |fn (f:FuncId) (caps:List AV)
 |own (o n:Nat)
 |ptr (o off:Nat)
 |eptr (o n off:Nat)
 deriving Inhabited
structure Bel (w w':World):Prop extends Below w.heap.size w w' where
 drawn:w.drawn≤w'.drawn
theorem Bel.refl (w:World):Bel w w:=⟨Below.refl _ _,Nat.le_refl _⟩
inductive FR (w:World) (S:Nat→Nat→Prop):Value→AV→Prop
 |bot (v:Value):FR w S v .bot
 |p (v:Value):FR w S v (.p v)
 |emp (A:Option Addr):FR w S (.slice A 0 0) .emp
 |sl (A:Option Addr) (n c k:Nat) (es:List (List AV)) (b off:Nat) (f:Nat→Nat→Value)
   (hl:es.length=n) (hn:n≤c) (hc:c≤maxLen) (hA:0<n→A=some ⟨b,off,none⟩)
   (hk:∀(j:Nat) (e:List AV),es[j]?=some e→e.length=k)
   (hcell:∀(j:Nat) (e:List AV) (i:Nat) (x:AV),es[j]?=some e→e[i]?=some x→S b (off+j*k+i)∧w.cell? ⟨b,off+j*k+i,none⟩=some (f j i))
   (h:∀(j:Nat) (e:List AV) (i:Nat) (x:AV),es[j]?=some e→e[i]?=some x→FR w S (f j i) x):FR w S (.slice A n c) (.sl es none)
 |agg (vs:List Value) (cs:List AV) (hl:vs.length=cs.length) (h:∀(i:Nat) (v:Value) (x:AV),vs[i]?=some v→cs[i]?=some x→FR w S v x):FR w S (.agg vs.toArray) (.agg cs)
 |tup (vs:List Value) (cs:List AV) (hl:vs.length=cs.length) (h:∀(i:Nat) (v:Value) (x:AV),vs[i]?=some v→cs[i]?=some x→FR w S v x):FR w S (.tuple vs.toArray) (.tup cs)
 |el (b off:Nat) (cs:List AV) (f:Nat→Value)
   (hcell:∀(i:Nat) (x:AV),cs[i]?=some x→S b (off+i)∧w.cell? ⟨b,off+i,none⟩=some (f i))
   (h:∀(i:Nat) (x:AV),cs[i]?=some x→FR w S (f i) x):FR w S (.pointer (some ⟨b,off,none⟩)) (.el cs)
 |fn (f:FuncId) (vs:List Value) (cs:List AV) (hl:vs.length=cs.length) (h:∀(i:Nat) (v:Value) (x:AV),vs[i]?=some v→cs[i]?=some x→FR w S v x):FR w S (.func (.func f) #[] vs.toArray) (.fn f cs)
theorem FR.mono {w w':World}{S S':Nat→Nat→Prop}(hS:∀b o,S b o→S' b o∧w'.cell? ⟨b,o,none⟩=w.cell? ⟨b,o,none⟩){v:Value}{x:AV}(h:FR w S v x):FR w' S' v x:=by
 induction h with
 |bot v=>exact .bot v
 |p v=>exact .p v
 |emp A=>exact .emp A
 |sl A n c k es b off f hl hn hc hA hk hcell _ ih=>
  exact .sl A n c k es b off f hl hn hc hA hk (fun j e i x h1 h2=>⟨(hS _ _ (hcell j e i x h1 h2).1).1,((hS _ _ (hcell j e i x h1 h2).1).2).trans (hcell j e i x h1 h2).2⟩) ih
 |agg vs cs hl _ ih=>exact .agg vs cs hl ih
 |tup vs cs hl _ ih=>exact .tup vs cs hl ih
 |el b off cs f hcell _ ih=>exact .el b off cs f (fun i x h1=>⟨(hS _ _ (hcell i x h1).1).1,((hS _ _ (hcell i x h1).1).2).trans (hcell i x h1).2⟩) ih
 |fn f vs cs hl _ ih=>exact .fn f vs cs hl ih
structure Cx where
 w:World
 S:Nat→Nat→Prop
 V:Nat→Option Value
 K:Nat→Prop
inductive VR (c:Cx):Value→AV→Prop
 |fr (v:Value) (x:AV) (h:FR c.w c.S v x):VR c v x
 |tok (v:Value) (es:List (List AV)) (o:Nat) (h:FR c.w c.S v (.sl es none)) (hK:c.K o)
   (hV:∀A n cap,c.V o=some (.slice A n cap)→es.length≤n∧(es.length=n→v=.slice A n cap∨n=0∧∃A',v=.slice A' 0 0)):VR c v (.sl es (some o))
 |own (v:Value) (o n:Nat) (hK:c.K o) (hV:∀A n' cap,c.V o=some (.slice A n' cap)→n≤n'∧(n=n'→v=.slice A n' cap)):VR c v (.own o n)
 |ptr (v:Value) (o off:Nat) (hK:c.K o) (hV:∀b,c.V o=some (.pointer (some ⟨b,0,none⟩))→v=.pointer (some ⟨b,off,none⟩)):VR c v (.ptr o off)
 |eptr (v:Value) (o n off:Nat) (hK:c.K o) (hV:∀A n' cap,c.V o=some (.slice A n' cap)→n≤n'∧(n=n'→∃b,A=some ⟨b,0,none⟩∧v=.pointer (some ⟨b,off,none⟩))):VR c v (.eptr o n off)
 |agg (vs:List Value) (cs:List AV) (hl:vs.length=cs.length) (h:∀(i:Nat) (v:Value) (x:AV),vs[i]?=some v→cs[i]?=some x→VR c v x):VR c (.agg vs.toArray) (.agg cs)
 |tup (vs:List Value) (cs:List AV) (hl:vs.length=cs.length) (h:∀(i:Nat) (v:Value) (x:AV),vs[i]?=some v→cs[i]?=some x→VR c v x):VR c (.tuple vs.toArray) (.tup cs)
 |fn (f:FuncId) (vs:List Value) (cs:List AV) (hl:vs.length=cs.length) (h:∀(i:Nat) (v:Value) (x:AV),vs[i]?=some v→cs[i]?=some x→VR c v x):VR c (.func (.func f) #[] vs.toArray) (.fn f cs)
def Qa9 (v v':Option Value):Prop:=
 v'=v∨v'=none∨∃A n cap A' n' cap',v=some (.slice A n cap)∧v'=some (.slice A' n' cap')∧n<n'
structure Cx.le (c c':Cx):Prop where
 S:∀b o,c.S b o→c'.S b o∧c'.w.cell? ⟨b,o,none⟩=c.w.cell? ⟨b,o,none⟩
 K:∀o,c.K o→c'.K o
 V:∀o,c.K o→Qa9 (c.V o) (c'.V o)
theorem Qa9.refl (v:Option Value):Qa9 v v:=.inl rfl
theorem Qa9.trans {a b c:Option Value}(h:Qa9 a b)(k:Qa9 b c):Qa9 a c:=by
 rcases k with k|k|⟨A,n,cap,A',n',cap',k1,k2,k3⟩
 ·rw[k];exact h
 ·exact .inr (.inl k)
 rcases h with h|h|⟨B,m,cb,B',m',cb',h1,h2,h3⟩
 ·exact .inr (.inr ⟨A,n,cap,A',n',cap',by rw[←h];exact k1,k2,k3⟩)
 ·rw[h] at k1;cases k1
 rw[h2] at k1
 cases k1
 exact .inr (.inr ⟨B,m,cb,A',n',cap',h1,k2,by omega⟩)
theorem Cx.le.refl (c:Cx):c.le c:=⟨fun _ _ h=>⟨h,rfl⟩,fun _ h=>h,fun _ _=>.refl _⟩
theorem VR.mono {c c':Cx}(hc:c.le c'){v:Value}{x:AV}(h:VR c v x):VR c' v x:=by
 induction h with
 |fr v x h=>exact .fr v x (h.mono hc.S)
 |tok v es o h hK hV=>
  refine .tok v es o (h.mono hc.S) (hc.K o hK) fun A n cap hv=>?_
  rcases hc.V o hK with he|he|⟨A1,n1,c1,A2,n2,c2,h1,h2,hlt⟩
  ·exact hV A n cap (he▸hv)
  ·rw[he] at hv;cases hv
  rw[h2] at hv;cases hv
  have:=(hV _ _ _ h1).1
  exact⟨by omega,fun e=>by omega⟩
 |own v o n hK hV=>
  refine .own v o n (hc.K o hK) fun A n' cap hv=>?_
  rcases hc.V o hK with he|he|⟨A1,n1,c1,A2,n2,c2,h1,h2,hlt⟩
  ·exact hV A n' cap (he▸hv)
  ·rw[he] at hv;cases hv
  rw[h2] at hv;cases hv
  have:=(hV _ _ _ h1).1
  exact⟨by omega,fun e=>by omega⟩
 |ptr v o off hK hV=>
  refine .ptr v o off (hc.K o hK) fun b hv=>?_
  rcases hc.V o hK with he|he|⟨A1,n1,c1,A2,n2,c2,h1,h2,hlt⟩
  ·exact hV b (he▸hv)
  ·rw[he] at hv;cases hv
  rw[h2] at hv;cases hv
 |eptr v o n off hK hV=>
  refine .eptr v o n off (hc.K o hK) fun A n' cap hv=>?_
  rcases hc.V o hK with he|he|⟨A1,n1,c1,A2,n2,c2,h1,h2,hlt⟩
  ·exact hV A n' cap (he▸hv)
  ·rw[he] at hv;cases hv
  rw[h2] at hv;cases hv
  have:=(hV _ _ _ h1).1
  exact⟨by omega,fun e=>by omega⟩
 |agg vs cs hl _ ih=>exact .agg vs cs hl ih
 |tup vs cs hl _ ih=>exact .tup vs cs hl ih
 |fn f vs cs hl _ ih=>exact .fn f vs cs hl ih
inductive Qj where
 |var (t:TypeId) (cs:List AV)
 |tok (t:TypeId) (k n:Nat)
 |arr (t:TypeId) (k:Nat) (es:List (List AV))
structure St where
 t:List (Nat×AV)
 H:List (Nat×Qj)
 nx:Nat
def Qb {α:Type}:List (Nat×α)→Nat→Option α
 |[],_=>none
 |(j,x)::r,i=>bif i==j then some x else Qb r i
def St.get (st:St)(i:Nat):AV:=(Qb st.t i).getD .bot
def St.put (st:St)(d:Option Nat)(x:AV):St:=match d with|some d=>{ st with t:=(d,x)::st.t }|none=>st
def St.set (st:St)(o:Nat)(ob:Qj):St:={ st with H:=(o,ob)::st.H }
theorem Qn {α:Type}(j:Nat)(x:α)(r:List (Nat×α))(i:Nat):Qb ((j,x)::r) i=if i=j then some x else Qb r i:=by
 simp only[Qb]
 by_cases h:i=j
 ·subst h;simp
 have hb:(i==j)=false:=by simpa using h
 rw[hb,if_neg h];rfl
theorem Qp {α:Type}(j:Nat)(x:α)(r:List (Nat×α)):Qb ((j,x)::r) j=some x:=by rw[Qn,if_pos rfl]
theorem Qe {α:Type}{j:Nat}(x:α)(r:List (Nat×α)){i:Nat}(h:i≠j):Qb ((j,x)::r) i=Qb r i:=by rw[Qn,if_neg h]
def AV.ofV:Value→AV
 | .agg cs=>.agg (cs.toList.map .p)
 |v=>.p v
theorem FR.ofV (w:World)(S:Nat→Nat→Prop)(v:Value):FR w S v (AV.ofV v):=by
 cases v
 case agg cs=>
  have:=FR.agg (w:=w) (S:=S) cs.toList (cs.toList.map .p) (by simp) (fun i v x h1 h2=>by
   rw[List.getElem?_map,h1] at h2
   cases h2
   exact .p v)
  show FR w S (.agg cs) (.agg (cs.toList.map .p))
  simpa using this
 all_goals exact .p _
def St.ev (st:St):Operand→AV
 | .tmp t=>st.get t
 | .const v=>.ofV v
 | .global _=>.bot
 | .func f=>.fn f []
def Xd:Value→Option Nat
 | .pointer (some a)=>some a.block
 | .slice (some a) _ _=>some a.block
 |_=>none
inductive OR (c:Cx):Value→Qj→Prop
 |var (b:Nat) (ccs:Array Value) (t:TypeId) (cs:List AV) (hb:c.w.heap[b]?=some (.cells ccs t (0,0))) (hl:ccs.size=cs.length)
   (h:∀(i:Nat) (u:Value) (x:AV),ccs[i]?=some u→cs[i]?=some x→VR c u x) (hS:∀off,¬c.S b off):OR c (.pointer (some ⟨b,0,none⟩)) (.var t cs)
 |tok (v:Value) (t:TypeId) (k n:Nat) (xs:List Value) (ho:c.w.ownsRow 0 t k v n xs) (hS:∀b,Xd v=some b→∀off,n*k≤off→¬c.S b off):OR c v (.tok t k n)
 |arr (v:Value) (t:TypeId) (k:Nat) (es:List (List AV)) (xs:List Value) (ho:c.w.ownsRow 0 t k v es.length xs) (hk:∀e∈es,e.length=k)
   (h:∀(i:Nat) (u:Value) (x:AV),xs[i]?=some u→es.flatten[i]?=some x→VR c u x) (hS:∀b,Xd v=some b→∀off,¬c.S b off):OR c v (.arr t k es)
def Qf:Nat:=1000000
structure X7 where
 N:Nat
 w0:World
 S0:Nat→Nat→Prop
 Wr:Nat→Prop
 new:∀b,w0.heap.size≤b→Wr b
 KB:Nat→Prop
 kb:∀o,KB o→Qf≤o
 V0:Nat→Option Value
structure Jk (E:X7) (c:Cx) (a:Act) (st:St):Prop where
 defers:a.defers=[]
 size:a.tmps.size=E.N
 tmps:∀i,VR c (a.tmps.getD i undef) (st.get i)
 live:∀o ob,Qb st.H o=some ob→c.K o∧∃v,c.V o=some v∧OR c v ob∧∀b,Xd v=some b→E.Wr b
 dead:∀o,Qb st.H o=none→c.V o=none
 apart:∀o o' v v' b,c.V o=some v→c.V o'=some v'→Xd v=some b→Xd v'=some b→o=o'
 ids:∀o,c.K o→o<st.nx∨E.KB o
 nxB:st.nx≤Qf
 kbs:∀o,E.KB o→c.K o
 V0:∀o,E.KB o→Qa9 (E.V0 o) (c.V o)
 Ssz:∀b off,c.S b off→b<c.w.heap.size
 os:c.w.os=E.w0.os
 tape:c.w.tape=E.w0.tape
 output:c.w.output=E.w0.output
 drawn:E.w0.drawn≤c.w.drawn
 grown:E.w0.heap.size≤c.w.heap.size
 frame:∀b,b<E.w0.heap.size→¬E.Wr b→c.w.heap[b]?=E.w0.heap[b]?
 S0:∀b off,E.S0 b off→c.S b off∧c.w.cell? ⟨b,off,none⟩=E.w0.cell? ⟨b,off,none⟩
 Snew:∀b off,c.S b off→E.S0 b off∨E.Wr b
theorem Jk.ev {E:X7}{c:Cx}{a:Act}{st:St}(h:Jk E c a st)(x:Operand):VR c (a.eval x) (st.ev x):=by
 cases x with
 |tmp t=>exact h.tmps t
 |const v=>exact .fr _ _ (.ofV _ _ v)
 |global g=>exact .fr _ _ (.bot _)
 |func f=>exact .fr _ _ (.fn f [] [] rfl (by intro i v x h;simp at h))
def QfB (E:X7)(Q:Exit→St→Prop):Exit→Act→World→Prop:=fun e a w=>∃c st,c.w=w∧Jk E c a st∧Q e st
def Y1 (P:Program)(E:X7)(code:Code)(Q:Exit→St→Prop)(st:St):Prop:=∀c a,Jk E c a st→code.wp P (QfB E Q) a c.w
def QfO (K:St→Prop)(Q:Exit→St→Prop):Exit→St→Prop
 | .normal,st=>K st
 |e,st=>Q e st
def QtK (id:Nat)(Q:Exit→St→Prop):Exit→St→Prop
 | .exit id',st=>bif id'==id then Q .normal st else Q (.exit id') st
 |e,st=>Q e st
section
variable {P:Program}{E:X7}{Q:Exit→St→Prop}{st:St}
theorem Y1.mono {code:Code}{Q':Exit→St→Prop}(h:Y1 P E code Q st)(hq:∀e st,Q e st→Q' e st):Y1 P E code Q' st:=
 fun c a hr=>wp_mono (h c a hr) fun _ _ _ ⟨c',st',h1,h2,h3⟩=>⟨c',st',h1,h2,hq _ _ h3⟩
theorem QM (h:Q .normal st):Y1 P E .skip Q st:=fun c _ hr=>wp_skip ⟨c,st,rfl,hr,h⟩
theorem Qqz {l:Nat}(h:Q .normal st):Y1 P E (.label l) Q st:=fun c _ hr=>wp_label ⟨c,st,rfl,hr,h⟩
theorem Qah {id:Nat}(h:Q (.exit id) st):Y1 P E (.exit id) Q st:=fun c _ hr=>wp_exit ⟨c,st,rfl,hr,h⟩
theorem Qu (h:Q .ret st):Y1 P E .ret Q st:=fun c _ hr=>wp_ret ⟨c,st,rfl,hr,h⟩
theorem Qhh {x y:Code}(h:Y1 P E x (QfO (Y1 P E y Q) Q) st):Y1 P E (.seq x y) Q st:=fun c a hr=>by
 refine wp_seq (wp_mono (h c a hr) ?_);rintro e a' w' ⟨c',st',rfl,hr',hq⟩
 cases e with
 |normal=>exact hq c' a' hr'
 |_=>exact⟨c',st',rfl,hr',hq⟩
theorem VR.p_inv {c:Cx}{v u:Value}(h:VR c v (.p u)):v=u:=by
 cases h with
 |fr _ _ h=>cases h;rfl
theorem Qig {x:Operand}{thn els:Code}(t:Bool)(hc:st.ev x=.p (.bool t))(h1:t=true→Y1 P E thn Q st)(h2:t=false→Y1 P E els Q st):Y1 P E (.cond x thn els) Q st:=fun c a hr=>by
 have hv:=hr.ev x
 rw[hc] at hv;refine wp_cond hv.p_inv ?_
 cases t
 ·exact h2 rfl c a hr
 ·exact h1 rfl c a hr
theorem QtA {x:Operand}{thn els:Code}(hc:st.ev x=.p (.bool true))(h:Y1 P E thn Q st):Y1 P E (.cond x thn els) Q st:=
 Qig true hc (fun _=>h) (fun h=>by cases h)
theorem Qqe {x:Operand}{thn els:Code}(hc:st.ev x=.p (.bool false))(h:Y1 P E els Q st):Y1 P E (.cond x thn els) Q st:=
 Qig false hc (fun h=>by cases h) (fun _=>h)
theorem QqT {id:Nat}{x:Code}(h:Y1 P E x (QtK id Q) st):Y1 P E (.block id x) Q st:=fun c a hr=>by
 refine wp_block (wp_mono (h c a hr) ?_);rintro e a' w' ⟨c',st',rfl,hr',hq⟩
 cases e with
 |exit id'=>
  simp only[Exit.inBlock]
  simp only[QtK] at hq
  split
  ·rename_i h;subst h;simp only[BEq.rfl,cond_true] at hq;exact⟨c',st',rfl,hr',hq⟩
  rename_i h
  have hb:(id'==id)=false:=by simpa using h
  rw[hb,cond_false] at hq;exact⟨c',st',rfl,hr',hq⟩
 |_=>exact⟨c',st',rfl,hr',hq⟩
def Kj (E:X7)(st st':St):Prop:=∀c a,Jk E c a st→∃c':Cx,c'.w=c.w∧Jk E c' a st'
theorem Kj.refl:Kj E st st:=fun c _ h=>⟨c,rfl,h⟩
theorem Kj.trans {s1 s2 s3:St}(h:Kj E s1 s2)(k:Kj E s2 s3):Kj E s1 s3:=fun c a hr=>by
 obtain⟨c',e,h'⟩:=h c a hr;obtain⟨c'',e',h''⟩:=k c' a h';exact⟨c'',e'.trans e,h''⟩
theorem QC {code:Code}{st':St}(hw:Kj E st st')(h:Y1 P E code Q st'):Y1 P E code Q st:=fun c a hr=>by
 obtain⟨c',e,h'⟩:=hw c a hr
 have:=h c' a h'
 rwa [e] at this
end
theorem Qlh {P:Program}{c:Code}{Q:Exit→Act→World→Prop}{α:Type}(R:α→Act→World→Prop)(μ:α→Nat)
  (round:∀x a w,R x a w→c.wp P (Exit.then (fun a' w'=>∃y,R y a' w'∧μ y<μ x) Q) a w) (x:α) (a:Act) (w:World) (h₀:R x a w):(Code.loop c).wp P Q a w:=by
 intro b k cs
 have key:∀n x a w,μ x=n→R x a w →
   ∃e a' w',Q e a' w'∧Arrives P (lone (b.at a (.code c :: .inLoop c::k)) cs w) b k cs e a' w':=by
  intro n
  induction n using Nat.strongRecOn with
  |_ n ih=>
   intro x a w hn hI;obtain⟨e,a₁,w₁,hq,harr⟩:=round x a w hI b (.inLoop c::k) cs
   cases e with
   |normal=>
    obtain⟨y,hI₁,hlt⟩:=hq;obtain⟨e₂,a₂,w₂,hq₂,harr₂⟩:=ih (μ y) (hn▸hlt) y a₁ w₁ rfl hI₁;exact⟨e₂,a₂,w₂,hq₂,.of_steps (Steps.trans harr (.one step_inLoop)) harr₂⟩
   |exit id=>exact⟨_,a₁,w₁,hq,.pass (x:=.inLoop c) rfl (fun _ _=>.inl (by simp)) harr⟩
   |goto l=>exact⟨_,a₁,w₁,hq,.pass (x:=.inLoop c) rfl (fun _ _=>.inl (by simp)) harr⟩
   |ret=>exact⟨_,a₁,w₁,hq,.pass (x:=.inLoop c) rfl (fun _ _=>.inl (by simp)) harr⟩
   |panic ch=>exact⟨_,a₁,w₁,hq,.pass (x:=.inLoop c) rfl (fun _ _=>.inl (by simp)) harr⟩
   |outgrown=>exact⟨_,a₁,w₁,hq,.pass (x:=.inLoop c) rfl (fun _ _=>.inl (by simp)) harr⟩
 obtain⟨e,a',w',hq,harr⟩:=key _ x a w rfl h₀;exact⟨e,a',w',hq,.of_steps (.one step_loop) harr⟩
theorem Qq {P:Program}{E:X7}{Q:Exit→St→Prop}{st:St}{α:Type}{body:Code}(f:α→St)(μ:α→Nat)(x:α)(h0:Kj E st (f x))
  (round:∀x,Y1 P E body (QfO (fun st'=>∃y,Kj E st' (f y)∧μ y<μ x) Q) (f x)):Y1 P E (.loop body) Q st:=fun c a hr=>by
 obtain⟨c0,e0,hr0⟩:=h0 c a hr;refine Qlh (fun x a w=>∃c:Cx,c.w=w∧Jk E c a (f x)) μ ?_ x a c.w ⟨c0,e0,hr0⟩;rintro x a w ⟨c,rfl,hr⟩;refine wp_mono (round x c a hr) ?_;rintro e a' w' ⟨c',st',rfl,hr',hq⟩
 cases e with
 |normal=>
  obtain⟨y,hw,hlt⟩:=hq;obtain⟨c'',e'',hr''⟩:=hw c' a' hr';exact⟨y,⟨c'',e'',hr''⟩,hlt⟩
 |_=>exact⟨c',st',rfl,hr',hq⟩
section
variable {E:X7}{c:Cx}{a:Act}{st:St}
theorem QrA (ts:Array Value)(d i:Nat)(v:Value)(hd:d<ts.size):(ts.setIfInBounds d v).getD i undef=if i=d then v else ts.getD i undef:=by
 by_cases h:i=d
 ·subst h;simp[hd]
 ·simp[h,Array.getElem?_setIfInBounds_ne (Ne.symm h)]
theorem Jk.put (h:Jk E c a st){d:Option Nat}(hd:∀x,d=some x→x<E.N){v:Value}{x:AV}(hv:VR c v x):Jk E c (a.put d v) (st.put d x):=by
 cases d with
 |none=>exact h
 |some d=>
  have hd':d<a.tmps.size:=by rw[h.size];exact hd d rfl
  refine { h with defers:=h.defers,size:=by simp[Act.put,h.size],tmps:=fun i=>?_ }
  show VR c ((a.tmps.setIfInBounds d v).getD i undef) ((Qb ((d,x)::st.t) i).getD .bot)
  rw[QrA _ _ _ _ hd',Qn]
  split
  ·exact hv
  ·exact h.tmps i
theorem QgR {w w':World}(hw:Bel w w'){base:Nat}{t:TypeId}{k n:Nat}{v:Value}{xs:List Value}(h:w.ownsRow base t k v n xs):w'.ownsRow base t k v n xs:=
 World.ownsRow.kept (row:=none) h ⟨hw.os,hw.tape,hw.output,hw.size,fun k hk _=>hw.block k hk⟩ (by
  rcases hv:v.ownBlock with _|k
  ·exact .inl rfl
  ·right;simp)
theorem WH {w:World}{base:Nat}{t:TypeId}{k n:Nat}{v:Value}{xs:List Value}(h:w.ownsRow base t k v n xs){b:Nat}(hb:Xd v=some b):b<w.heap.size:=by
 rcases h.2 with ⟨rfl,_⟩|⟨g,cap,cur,rfl,_,hh,_⟩
 ·cases hb
 ·have:g=b:=by simpa [Xd] using hb
  subst this
  exact(Array.getElem?_eq_some_iff.1 hh).1
theorem OR.lt {v:Value}{ob:Qj}(h:OR c v ob){b:Nat}(hb:Xd v=some b):b<c.w.heap.size:=by
 cases h with
 |var b' ccs t cs hh _ _ _=>
  have:b'=b:=by simpa [Xd] using hb
  subst this
  exact(Array.getElem?_eq_some_iff.1 hh).1
 |tok _ t k n xs ho hS=>exact WH ho hb
 |arr _ t k es xs ho hk h hS=>exact WH ho hb
theorem OR.ext {w':World}{S':Nat→Nat→Prop}{V':Nat→Option Value}{K':Nat→Prop}(hw:Bel c.w w')(hc:c.le ⟨w',S',V',K'⟩)
  {v:Value} {ob:Qj} (hS:∀b,Xd v=some b→∀off,S' b off→c.S b off) (h:OR c v ob):OR ⟨w',S',V',K'⟩ v ob:=by
 cases h with
 |var b ccs t cs hh hl hr hn=>
  exact .var b ccs t cs ((hw.block b (Array.getElem?_eq_some_iff.1 hh).1).trans hh) hl (fun i u x h1 h2=>(hr i u x h1 h2).mono hc) (fun off h=>hn off (hS b rfl off h))
 |tok _ t k n xs ho hn=>exact .tok v t k n xs (QgR hw ho) (fun b hb off hle h=>hn b hb off hle (hS b hb off h))
 |arr _ t k es xs ho hk hr hn=>exact .arr v t k es xs (QgR hw ho) hk (fun i u x h1 h2=>(hr i u x h1 h2).mono hc) (fun b hb off h=>hn b hb off (hS b hb off h))
theorem QaI {w w':World}(hw:Bel w w'){b off:Nat}(hb:b<w.heap.size):w'.cell? ⟨b,off,none⟩=w.cell? ⟨b,off,none⟩:=
 Below.cell hw.toBelow (p:=⟨b,off,none⟩) hb
theorem Jk.ext (h:Jk E c a st){w':World}{S':Nat→Nat→Prop}(hw:Bel c.w w')(hS:∀b o,c.S b o→S' b o)
  (hS':∀b o,S' b o→c.S b o∨(c.w.heap.size≤b∧b<w'.heap.size)):c.le ⟨w',S',c.V,c.K⟩∧Jk E ⟨w',S',c.V,c.K⟩ a st:=by
 have hc:c.le ⟨w',S',c.V,c.K⟩:=⟨fun b o hs=>⟨hS b o hs,QaI hw (h.Ssz b o hs)⟩,fun _ h=>h,fun _ _=>.refl _⟩
 refine⟨hc,?_⟩
 have hsz:=hw.size
 exact {
  defers:=h.defers,size:=h.size,tmps:=fun i=>(h.tmps i).mono hc
  live:=fun o ob ho=>by
   obtain⟨hk,v,hv,hor,hwr⟩:=h.live o ob ho;refine⟨hk,v,hv,hor.ext hw hc (fun b hb off hs=>?_),hwr⟩
   rcases hS' b off hs with h1|⟨h1,_⟩
   ·exact h1
   have:=hor.lt hb;omega
  dead:=h.dead,apart:=h.apart,ids:=h.ids,nxB:=h.nxB,kbs:=h.kbs,V0:=h.V0
  Ssz:=fun b off hs=>by
   rcases hS' b off hs with h1|⟨_,h1⟩
   ·exact Nat.lt_of_lt_of_le (h.Ssz b off h1) hsz
   exact h1
  os:=hw.os.trans h.os,tape:=hw.tape.trans h.tape,output:=hw.output.trans h.output
  drawn:=Nat.le_trans h.drawn hw.drawn
  grown:=Nat.le_trans h.grown hsz
  frame:=fun b hb hn=>(hw.block b (Nat.lt_of_lt_of_le hb h.grown)).trans (h.frame b hb hn)
  S0:=fun b off hs=>⟨hS _ _ (h.S0 b off hs).1,(QaI hw (h.Ssz _ _ (h.S0 b off hs).1)).trans (h.S0 b off hs).2⟩
  Snew:=fun b off hs=>by
   rcases hS' b off hs with h1|⟨h1,_⟩
   ·exact h.Snew b off h1
   ·exact .inr (E.new b (Nat.le_trans h.grown h1)) }
theorem Jk.drew (h:Jk E c a st):Jk E ⟨{ c.w with drawn:=c.w.drawn+1 },c.S,c.V,c.K⟩ a st:=
 (h.ext (w':={ c.w with drawn:=c.w.drawn+1 }) (S':=c.S) ⟨(Below.refl _ _).drew,Nat.le_succ _⟩ (fun _ _ h=>h) (fun _ _ h=>.inl h)).2
theorem Jk.new' (h:Jk E c a st)(hB:st.nx<Qf){w':World}{S':Nat→Nat→Prop}(hw:Bel c.w w')(v:Value)(ob:Qj)(hS:∀b o,c.S b o→S' b o)(hS':∀b o,S' b o→c.S b o∨(Xd v=some b∧b<w'.heap.size))
  (hor:∀c':Cx,c'.w=w'→c'.S=S'→c.le c'→OR c' v ob) (hb:∀b,Xd v=some b→c.w.heap.size≤b) :
  ∃c':Cx,c'.w=w'∧c'.S=S'∧c.le c'∧c'.K st.nx∧c'.V st.nx=some v∧Jk E c' a { st.set st.nx ob with nx:=st.nx+1 }:=by
 obtain⟨V',hV'⟩:∃V':Nat→Option Value,V'=fun o=>if o=st.nx then some v else c.V o:=⟨_,rfl⟩
 have hVn:V' st.nx=some v:=by rw[hV'];simp
 have hVo:∀o,o≠st.nx→V' o=c.V o:=fun o ho=>by rw[hV'];simp[ho]
 have hnK:¬c.K st.nx:=fun hk=>by
  rcases h.ids _ hk with h1|h1
  ·omega
  have:=E.kb _ h1;omega
 have hc:c.le ⟨w',S',V',fun o=>c.K o∨o=st.nx⟩:=⟨fun b o hs=>⟨hS b o hs,QaI hw (h.Ssz b o hs)⟩,fun _ h=>.inl h,
  fun o hk=>.inl (hVo o (fun e=>hnK (e▸hk)))⟩
 have hsz:=hw.size
 refine⟨⟨w',S',V',fun o=>c.K o∨o=st.nx⟩,rfl,rfl,hc,.inr rfl,hVn,?_⟩
 exact {
  defers:=h.defers,size:=h.size,tmps:=fun i=>(h.tmps i).mono hc
  live:=fun o ob' ho=>by
   have ho':(if o=st.nx then some ob else Qb st.H o)=some ob':=(Qn _ _ _ _).symm.trans ho
   by_cases e:o=st.nx
   ·rw[if_pos e] at ho'
    cases ho'
    subst e
    exact⟨.inr rfl,v,hVn,hor _ rfl rfl hc,fun b hb'=>E.new b (Nat.le_trans h.grown (hb b hb'))⟩
   rw[if_neg e] at ho';obtain⟨hk,u,hu,hor',hwr⟩:=h.live o ob' ho'
   exact⟨.inl hk,u,(hVo o e).trans hu,hor'.ext hw hc (fun b hb2 off hs=>by
    rcases hS' b off hs with h1|⟨h1,_⟩
    ·exact h1
    have:=hb b h1;have:=hor'.lt hb2;omega),hwr⟩
  dead:=fun o ho=>by
   have ho':(if o=st.nx then some ob else Qb st.H o)=none:=(Qn _ _ _ _).symm.trans ho
   by_cases e:o=st.nx
   ·rw[if_pos e] at ho';cases ho'
   rw[if_neg e] at ho';exact(hVo o e).trans (h.dead o ho')
  apart:=fun o o' u u' b hu hu' hb1 hb2=>by
   have old:∀o u,o≠st.nx→V' o=some u→∀b,Xd u=some b→b<c.w.heap.size:=fun o u e hu b hb'=>by
    have hu2:=(hVo o e).symm.trans hu
    cases hl:Qb st.H o with
    |none=>rw[h.dead o hl] at hu2;cases hu2
    |some ob'=>
     obtain⟨_,u',hu',hor',_⟩:=h.live o ob' hl;rw[hu2] at hu'
     cases hu'
     exact hor'.lt hb'
   by_cases e:o=st.nx<;>by_cases e':o'=st.nx
   ·rw[e,e']
   ·subst e
    have hu:V' st.nx=some u:=hu
    rw[hVn] at hu;cases hu
    have:=hb b hb1
    have:=old o' u' e' hu' b hb2
    omega
   ·subst e'
    have hu':V' st.nx=some u':=hu'
    rw[hVn] at hu';cases hu'
    have:=hb b hb2
    have:=old o u e hu b hb1
    omega
   exact h.apart o o' u u' b ((hVo o e).symm.trans hu) ((hVo o' e').symm.trans hu') hb1 hb2
  ids:=fun o hk=>by
   rcases hk with hk|hk
   ·rcases h.ids o hk with h1|h1
    ·exact .inl (Nat.lt_succ_of_lt h1)
    exact .inr h1
   exact .inl (by show o<st.nx+1;omega)
  nxB:=hB
  kbs:=fun o hk=>.inl (h.kbs o hk)
  V0:=fun o hk=>by
   have hne:o≠st.nx:=fun e=>by have:=E.kb o hk;omega
   show Qa9 (E.V0 o) (V' o)
   rw[hVo o hne];exact h.V0 o hk
  Ssz:=fun b off hs=>by
   rcases hS' b off hs with h1|⟨_,h1⟩
   ·exact Nat.lt_of_lt_of_le (h.Ssz b off h1) hsz
   exact h1
  os:=hw.os.trans h.os,tape:=hw.tape.trans h.tape,output:=hw.output.trans h.output
  drawn:=Nat.le_trans h.drawn hw.drawn
  grown:=Nat.le_trans h.grown hsz
  frame:=fun b hb' hn=>(hw.block b (Nat.lt_of_lt_of_le hb' h.grown)).trans (h.frame b hb' hn)
  S0:=fun b off hs=>⟨hS _ _ (h.S0 b off hs).1,(QaI hw (h.Ssz _ _ (h.S0 b off hs).1)).trans (h.S0 b off hs).2⟩
  Snew:=fun b off hs=>by
   rcases hS' b off hs with h1|⟨h1,_⟩
   ·exact h.Snew b off h1
   ·exact .inr (E.new b (Nat.le_trans h.grown (hb b h1))) }
theorem Jk.new (h:Jk E c a st)(hB:st.nx<Qf){w':World}(hw:Bel c.w w')(v:Value)(ob:Qj)
  (hor:∀c':Cx,c'.w=w'→c'.S=c.S→c.le c'→OR c' v ob) (hb:∀b,Xd v=some b→c.w.heap.size≤b) :
  ∃c':Cx,c'.w=w'∧c'.S=c.S∧c.le c'∧c'.K st.nx∧c'.V st.nx=some v∧Jk E c' a { st.set st.nx ob with nx:=st.nx+1 }:=
 h.new' hB hw v ob (fun _ _ h=>h) (fun _ _ h=>.inl h) hor hb
theorem Jk.upd (h:Jk E c a st){o:Nat}{ob:Qj}(ho:Qb st.H o=some ob){w':World}{S':Nat→Nat→Prop}{v v':Value}(hv:c.V o=some v)(ob':Qj)
  (hos:w'.os=c.w.os) (htape:w'.tape=c.w.tape) (hout:w'.output=c.w.output) (hsz2:c.w.heap.size≤w'.heap.size∧c.w.drawn≤w'.drawn)
  (hblk:∀b,b<c.w.heap.size→Xd v≠some b→w'.heap[b]?=c.w.heap[b]?)
  (hcell:∀b off,c.S b off→S' b off∧w'.cell? ⟨b,off,none⟩=c.w.cell? ⟨b,off,none⟩)
  (hS':∀b off,S' b off→c.S b off∨(Xd v'=some b∧b<w'.heap.size))
  (hv':Xd v'=Xd v∨∀b,Xd v'=some b→c.w.heap.size≤b)
  (hgo:Qa9 (some v) (some v'))
  (hor:∀c':Cx,c'.w=w'→c'.S=S'→c.le c'→OR c' v' ob') :
  ∃c':Cx,c'.w=w'∧c'.S=S'∧c.le c'∧c'.K o∧c'.V o=some v'∧Jk E c' a (st.set o ob'):=by
 have hsz:=hsz2.1
 obtain⟨hk,u0,hu0,hor0,hwr0⟩:=h.live o ob ho
 rw[hv] at hu0;cases hu0
 obtain⟨V',hV'⟩:∃V':Nat→Option Value,V'=fun q=>if q=o then some v' else c.V q:=⟨_,rfl⟩
 have hVn:V' o=some v':=by rw[hV'];simp
 have hVo:∀q,q≠o→V' q=c.V q:=fun q hq=>by rw[hV'];simp[hq]
 have hc:c.le ⟨w',S',V',c.K⟩:=⟨hcell,fun _ h=>h,fun q _=>by
  by_cases e:q=o
  ·subst e
   show Qa9 (c.V q) (V' q)
   rw[hVn,hv];exact hgo
  exact .inl (hVo q e)⟩
 have hwr:∀b,Xd v'=some b→E.Wr b:=fun b hb=>by
  rcases hv' with e|e
  ·exact hwr0 b (e▸hb)
  exact E.new b (Nat.le_trans h.grown (e b hb))
 have old:∀q u,q≠o→V' q=some u→c.V q=some u∧∀b,Xd u=some b→b<c.w.heap.size∧Xd v≠some b:=fun q u e hu=>by
  have hu2:=(hVo q e).symm.trans hu
  refine⟨hu2,fun b hb=>?_⟩
  cases hl:Qb st.H q with
  |none=>rw[h.dead q hl] at hu2;cases hu2
  |some ob2=>
   obtain⟨_,u',hu',hor',_⟩:=h.live q ob2 hl;rw[hu2] at hu'
   cases hu'
   exact⟨hor'.lt hb,fun e2=>e (h.apart q o u v b hu2 hv hb e2)⟩
 have oldn:∀q u,q≠o→V' q=some u→∀b,Xd u=some b→Xd v'≠some b:=fun q u e hu b hb e2=>by
  obtain⟨_,h2⟩:=old q u e hu
  rcases hv' with e3|e3
  ·exact(h2 b hb).2 (e3▸e2)
  have:=e3 b e2
  have:=(h2 b hb).1
  omega
 refine⟨⟨w',S',V',c.K⟩,rfl,rfl,hc,hk,hVn,?_⟩
 exact {
  defers:=h.defers,size:=h.size,tmps:=fun i=>(h.tmps i).mono hc
  live:=fun q ob2 hq=>by
   have hq':(if q=o then some ob' else Qb st.H q)=some ob2:=(Qn _ _ _ _).symm.trans hq
   by_cases e:q=o
   ·rw[if_pos e] at hq'
    cases hq'
    subst e
    exact⟨hk,v',hVn,hor _ rfl rfl hc,hwr⟩
   rw[if_neg e] at hq';obtain⟨hk2,u,hu,hor',hwr2⟩:=h.live q ob2 hq';refine⟨hk2,u,(hVo q e).trans hu,?_,hwr2⟩
   have hst:∀b,Xd u=some b→w'.heap[b]?=c.w.heap[b]?:=fun b hb=>hblk b (hor'.lt hb) ((old q u e ((hVo q e).trans hu)).2 b hb).2
   have hSs:∀b,Xd u=some b→∀off,S' b off→c.S b off:=fun b hb off hs=>by
    rcases hS' b off hs with h1|⟨h1,_⟩
    ·exact h1
    exact absurd h1 (oldn q u e ((hVo q e).trans hu) b hb)
   cases hor' with
   |var b ccs t cs hh hl hr hn=>exact .var b ccs t cs ((hst b rfl).trans hh) hl (fun i u x h1 h2=>(hr i u x h1 h2).mono hc) (fun off hs=>hn off (hSs b rfl off hs))
   |tok _ t k n xs ho2 hn=>
    refine .tok u t k n xs ?_ (fun b hb off hle hs=>hn b hb off hle (hSs b hb off hs));refine⟨ho2.1,?_⟩
    rcases ho2.2 with h1|⟨g,cap,cur,rfl,h1,h2,h3⟩
    ·exact .inl h1
    exact .inr ⟨g,cap,cur,rfl,h1,(hst g rfl).trans h2,h3⟩
   |arr _ t k es xs ho2 hk2 hr hn=>
    refine .arr u t k es xs ?_ hk2 (fun i u x h1 h2=>(hr i u x h1 h2).mono hc) (fun b hb off hs=>hn b hb off (hSs b hb off hs));refine⟨ho2.1,?_⟩
    rcases ho2.2 with h1|⟨g,cap,cur,rfl,h1,h2,h3⟩
    ·exact .inl h1
    exact .inr ⟨g,cap,cur,rfl,h1,(hst g rfl).trans h2,h3⟩
  dead:=fun q hq=>by
   have hq':(if q=o then some ob' else Qb st.H q)=none:=(Qn _ _ _ _).symm.trans hq
   by_cases e:q=o
   ·rw[if_pos e] at hq';cases hq'
   rw[if_neg e] at hq';exact(hVo q e).trans (h.dead q hq')
  apart:=fun q q' u u' b hu hu' hb1 hb2=>by
   by_cases e:q=o<;>by_cases e':q'=o
   ·rw[e,e']
   ·subst e
    have hu':=hu'
    rw[show(⟨w',S',V',c.K⟩:Cx).V q=some v' from hVn] at hu;cases hu
    exact absurd hb1 (oldn q' u' e' hu' b hb2)
   ·subst e'
    rw[show(⟨w',S',V',c.K⟩:Cx).V q'=some v' from hVn] at hu';cases hu'
    exact absurd hb2 (oldn q u e hu b hb1)
   exact h.apart q q' u u' b (old q u e hu).1 (old q' u' e' hu').1 hb1 hb2
  ids:=h.ids,nxB:=h.nxB,kbs:=h.kbs
  V0:=fun q hk=>(h.V0 q hk).trans (hc.V q (h.kbs q hk))
  Ssz:=fun b off hs=>by
   rcases hS' b off hs with h1|⟨_,h1⟩
   ·exact Nat.lt_of_lt_of_le (h.Ssz b off h1) hsz
   exact h1
  os:=hos.trans h.os,tape:=htape.trans h.tape,output:=hout.trans h.output
  drawn:=Nat.le_trans h.drawn hsz2.2
  grown:=Nat.le_trans h.grown hsz
  frame:=fun b hb hn=>by
   refine(hblk b (Nat.lt_of_lt_of_le hb h.grown) (fun e=>hn (hwr0 b e))).trans (h.frame b hb hn)
  S0:=fun b off hs=>⟨(hcell _ _ (h.S0 b off hs).1).1,((hcell _ _ (h.S0 b off hs).1).2).trans (h.S0 b off hs).2⟩
  Snew:=fun b off hs=>by
   rcases hS' b off hs with h1|⟨h1,_⟩
   ·exact h.Snew b off h1
   exact .inr (hwr b h1) }
end
def Kp (P:Program)(t:TypeId):Option Nat:=(P.info? t).map (·.size)
def Qh0 (P:Program)(t:TypeId):Option Bool:=(P.underlying t).map (·.isRow)
def Qf3 (P:Program)(s f:Nat):Option (Nat×TypeId):=match P.underlying s with|some (.struct fs)=>(fs[f]?).map fun fl=>(fl.offset,fl.type)|_=>none
def QiG (P:Program)(t:TypeId):Option TypeId:=match P.underlying t with|some (.slice e)=>some e|_=>none
def QrV (P:Program)(t:TypeId):Option (Nat×TypeId):=match P.underlying t with|some (.array n e)=>some (n,e)|_=>none
def Qtg (P:Program)(t:TypeId):Bool:=match P.underlying t with|some .string=>true|_=>false
def Qjl (P:Program)(t:TypeId):Option IntKind:=match P.underlying t with|some (.int k)=>some k|_=>none
def Qnk (P:Program)(t:TypeId):Bool:=match P.underlying t with|some .bool=>true|_=>false
class XV (P:Program) (t:TypeId) (n:outParam Nat) (row:outParam Bool):Prop where
 size:Kp P t=some n
 row:Qh0 P t=some row
class Q4 (P:Program) (s f:Nat) (off:outParam Nat) (n:outParam Nat) (row:outParam Bool):Prop where
 h:∃ft,Qf3 P s f=some (off,ft)∧Kp P ft=some n∧Qh0 P ft=some row
 pos:0<n
class JJ (P:Program) (t:TypeId) (e:outParam TypeId) (n:outParam Nat):Prop where
 h:QiG P t=some e
 size:Kp P e=some n
class Qta (P:Program) (t:TypeId) (len:outParam Nat) (e:outParam TypeId) (n:outParam Nat):Prop where
 h:QrV P t=some (len,e)
 size:Kp P e=some n
class Qnr (P:Program) (t:TypeId):Prop where
 h:Qtg P t=true
class QdE (P:Program) (t:TypeId) (k:outParam IntKind):Prop where
 h:Qjl P t=some k
class QrT (P:Program) (t:TypeId):Prop where
 h:Qnk P t=true
section
variable {P:Program}
theorem Xq {t e:TypeId}(h:QiG P t=some e):P.underlying t=some (.slice e):=by
 unfold QiG at h;split at h<;>simp_all
theorem Qe4 {t e:TypeId}{n:Nat}(h:QrV P t=some (n,e)):P.underlying t=some (.array n e):=by
 unfold QrV at h;split at h<;>simp_all
theorem Qih {t:TypeId}(h:Qtg P t=true):P.underlying t=some .string:=by
 unfold Qtg at h;split at h<;>simp_all
theorem WK {t:TypeId}{k:IntKind}(h:Qjl P t=some k):P.underlying t=some (.int k):=by
 unfold Qjl at h;split at h<;>simp_all
theorem Qg1 {t:TypeId}(h:Qnk P t=true):P.underlying t=some .bool:=by
 unfold Qnk at h;split at h<;>simp_all
theorem JD {t:TypeId}{n:Nat}(h:Kp P t=some n):∃i,P.info? t=some i∧i.size=n:=by
 unfold Kp at h
 cases hi:P.info? t with
 |none=>simp[hi] at h
 |some i=>exact⟨i,rfl,by simpa [hi] using h⟩
theorem Qdg {t:TypeId}{b:Bool}(h:Qh0 P t=some b):∃d,P.underlying t=some d∧d.isRow=b:=by
 unfold Qh0 at h
 cases hi:P.underlying t with
 |none=>simp[hi] at h
 |some d=>exact⟨d,rfl,by simpa [hi] using h⟩
theorem X6 {t:TypeId}{n:Nat}(h:Kp P t=some n)(w:World):(sizeOf t).run P w=.ok n w:=by
 obtain⟨i,h1,h2⟩:=JD h
 simp[sizeOf,typeInfo,h1,h2]
theorem Qaw {t:TypeId}{b:Bool}(h:Qh0 P t=some b)(w:World):(isAgg t).run P w=.ok b w:=by
 obtain⟨d,h1,h2⟩:=Qdg h
 unfold isAgg
 rw[Sem.run_bind,run_underlying h1 w]
 cases d<;>simp_all
end
def Qo (ops:Array Oper)(st:St)(o:Oper):Option Bool:=
 match o.guard with
 |none=>some true
 |some (j,want)=>match (ops[j]?).bind (·.dst) with
  |none=>some false
  |some d=>match st.get d with
   | .p (.bool b)=>some (b==want)
   | .p (.tuple _)=>some false
   |_=>none
theorem Xx {E:X7}{c:Cx}{a:Act}{st:St}{ops:Array Oper}{o:Oper}{b:Bool}(h:Qo ops st o=some b)(hr:Jk E c a st):Region.wanted o (yielded ops a.tmps)=b:=by
 unfold Qo at h
 unfold Region.wanted
 cases hg:o.guard with
 |none=>rw[hg] at h;simpa using h
 |some jw=>
  obtain⟨j,want⟩:=jw;rw[hg] at h
  simp only at h ⊢
  unfold yielded
  cases hd:(ops[j]?).bind (·.dst) with
  |none=>rw[hd] at h;simpa using h
  |some d=>
   rw[hd] at h
   simp only at h
   simp only[Option.bind_some]
   have ht:=hr.tmps d
   cases hx:st.get d with
   |p v=>
    rw[hx] at ht h
    have hv:=ht.p_inv
    rcases Nat.lt_or_ge d a.tmps.size with hlt|hge
    ·have e1:a.tmps[d]?=some v:=by simpa [hlt] using hv
     rw[e1]
     cases v<;>simp_all
    have e1:a.tmps[d]?=none:=Array.getElem?_eq_none hge
    have e2:v=undef:=by rw[←hv];simp[hge]
    subst e2
    rw[e1]
    simp only[undef] at h
    simpa using h
   |_=>rw[hx] at h;cases h
def Qj.fix:Qj→Bool
 | .tok _ _ _=>false
 |_=>true
def QcL (H H':List (Nat×Qj)):Prop:=∀q ob,Qb H q=some ob→ob.fix=true→Qb H' q=some ob
theorem QcL.refl (H:List (Nat×Qj)):QcL H H:=fun _ _ h _=>h
theorem QcL.trans {H H' H'':List (Nat×Qj)}(h:QcL H H')(k:QcL H' H''):QcL H H'':=fun q ob h1 h2=>k q ob (h q ob h1 h2) h2
def PY (P:Program)(E:X7)(o:Oper)(st:St)(x:AV):Prop:=
 ∀st':St,(∀y∈o.op.operands,st'.ev y=st.ev y)→QcL st.H st'.H→∀c a,Jk E c a st'→∀(K:Act→World→Prop) (Q:Exit→Act→World→Prop),
  (∀c' v,Jk E c' a st'→VR c' v x→K (a.put o.dst v) c'.w)→o.wp P a c.w K Q
def Q3 (P:Program)(E:X7)(ops:Array Oper)(l:List Oper)(Q:Exit→St→Prop)(st:St):Prop:=∀c a,Jk E c a st→wpList P ops (QfB E Q) l a c.w
section
variable {P:Program}{E:X7}{Q:Exit→St→Prop}{st:St}{ops:Array Oper}{o:Oper}{rest:List Oper}
theorem Qin {id:Nat}{l:List Oper}(h:Q3 P E l.toArray l Q st):Y1 P E (.region id l.toArray false) Q st:=fun c a hr=>wp_region_lit (h c a hr)
theorem Qc (h:Q .normal st):Q3 P E ops [] Q st:=fun c _ hr=>⟨c,st,rfl,hr,h⟩
theorem Qua (x:AV)(hw:Qo ops st o=some true)(hd:∀d,o.dst=some d→d<E.N)(hy:PY P E o st x)(h:Q3 P E ops rest Q (st.put o.dst x)):Q3 P E ops (o::rest) Q st:=fun c a hr=>by
 refine wpList_step fun K hK=>?_
 rw[Xx hw hr,if_pos rfl]
 exact hy st (fun _ _=>rfl) (QcL.refl _) c a hr K _ fun c' v hr' hv=>hK _ _ (h c' _ (hr'.put hd hv))
theorem Qqp (hw:Qo ops st o=some false)(hd:∀d,o.dst=some d→d<E.N)(h:Q3 P E ops rest Q (st.put o.dst (.p undef))):Q3 P E ops (o::rest) Q st:=fun c a hr=>by
 refine wpList_step fun K hK=>?_
 rw[Xx hw hr]
 simp only[Bool.false_eq_true,if_false]
 exact hK _ _ (h c _ (hr.put hd (.fr _ _ (.p _))))
theorem Kh {x:AV}(h:∀st':St,(∀y∈o.op.operands,st'.ev y=st.ev y)→QcL st.H st'.H→∀c a,Jk E c a st'→∃v,(execOp a.eval o).run P c.w=.ok (.value v) c.w∧VR c v x):PY P E o st x:=by
 intro st' h1 h2 c a hr K Q hK;obtain⟨v,hrun,hv⟩:=h st' h1 h2 c a hr
 unfold Oper.wp
 rw[hrun,Oper.upon_value];exact hK c v hr hv
theorem VR.sl_inv {c:Cx}{v:Value}{es:List (List AV)}{tk:Option Nat}(h:VR c v (.sl es tk)):FR c.w c.S v (.sl es none):=by
 cases h with
 |fr _ _ h=>cases h with|sl A n c k es b off f hl hn hc hA hk hcell h=>exact .sl A n c k es b off f hl hn hc hA hk hcell h
 |tok _ _ _ h _ _=>exact h
theorem FR.sl_val {w:World}{S:Nat→Nat→Prop}{v:Value}{es:List (List AV)}(h:FR w S v (.sl es none)):∃A c,v=.slice A es.length c∧es.length≤c∧c≤maxLen:=by
 cases h with
 |sl A n c k es b off f hl hn hc hA hk hcell h=>subst hl;exact⟨A,c,rfl,hn,hc⟩
def St.at_ (st:St):AV→Option (List AV)
 | .ptr o off=>match Qb st.H o with|some (.var _ cs)=>some (cs.drop off)|_=>none
 | .el cs=>some cs
 | .eptr o n off=>match Qb st.H o with|some (.arr _ _ es)=>bif Nat.beq es.length n then some (es.flatten.drop off) else none|_=>none
 |_=>none
theorem St.at_keep {st st':St}(hk:QcL st.H st'.H){ax:AV}{cs:List AV}(h:st.at_ ax=some cs):st'.at_ ax=some cs:=by
 cases ax with
 |ptr o off=>
  simp only[St.at_] at h ⊢
  cases ho:Qb st.H o with
  |none=>rw[ho] at h;cases h
  |some ob=>
   rw[ho] at h
   cases ob with
   |var t c=>rw[hk o _ ho rfl];exact h
   |tok t k n=>cases h
   |arr t k es=>cases h
 |eptr o n off=>
  simp only[St.at_] at h ⊢
  cases ho:Qb st.H o with
  |none=>rw[ho] at h;cases h
  |some ob=>
   rw[ho] at h
   cases ob with
   |var t c=>cases h
   |tok t k n=>cases h
   |arr t k es=>rw[hk o _ ho rfl];exact h
 |el cs0=>exact h
 |_=>cases h
theorem KT {w:World}{b:Nat}{ccs:Array Value}{t:TypeId}{fz:Nat×Nat}(h:w.heap[b]?=some (.cells ccs t fz))(i:Nat):w.cell? ⟨b,i,none⟩=ccs[i]?:=by
 simp[World.cell?,h]
theorem Qa7 {w:World}{base:Nat}{t:TypeId}{k n:Nat}{v:Value}{xs:List Value}(h:w.ownsRow base t k v n xs){i:Nat}{u:Value}(hu:xs[i]?=some u):
  ∃g cap,v=.slice (some ⟨g,0,none⟩) n cap∧w.cell? ⟨g,i,none⟩=some u:=by
 obtain⟨h1,h2⟩:=h
 rcases h2 with ⟨rfl,hn⟩|⟨g,cap,cur,rfl,hb,hg,hnc,hcm,hcs,htk⟩
 ·have:=(List.getElem?_eq_some_iff.1 hu).1
  rw[h1,hn] at this;simp at this
 ·refine⟨g,cap,rfl,?_⟩
  rw[KT hg i]
  have hi:=(List.getElem?_eq_some_iff.1 hu).1
  have:(cur.toList.take (n*k))[i]?=some u:=by rw[htk];exact hu
  rw[List.getElem?_take] at this
  split at this
  ·simpa using this
  ·cases this
theorem Jk.at_ {E:X7}{c:Cx}{a:Act}{st:St}(hr:Jk E c a st){v:Value}{x:AV}(hv:VR c v x){cs:List AV}(hx:st.at_ x=some cs):
  ∃b off,(∀i y,cs[i]?=some y→v=.pointer (some ⟨b,off,none⟩)∧∃u,c.w.cell? ⟨b,off+i,none⟩=some u∧VR c u y):=by
 cases x with
 |ptr o off=>
  simp only[St.at_] at hx
  cases ho:Qb st.H o with
  |none=>rw[ho] at hx;cases hx
  |some ob=>
   rw[ho] at hx
   cases ob with
   |var t cs0=>
    cases hx
    obtain⟨hk,v0,hv0,hor,_⟩:=hr.live o _ ho
    cases hor with
    |var b ccs _ _ hh hl hp hn=>
     refine⟨b,off,fun i y hy=>?_⟩
     cases hv with
     |fr _ _ h=>cases h
     |ptr _ _ _ _ hV=>
      refine⟨hV b hv0,?_⟩;rw[List.getElem?_drop] at hy
      have hi:=(List.getElem?_eq_some_iff.1 hy).1
      have hi':off+i<ccs.size:=by omega
      exact⟨ccs[off+i],(KT hh _).trans (Array.getElem?_eq_getElem hi'),hp _ _ _ (Array.getElem?_eq_getElem hi') hy⟩
   |tok t k n=>cases hx
   |arr t k es=>cases hx
 |el cs0=>
  cases hx
  cases hv with
  |fr _ _ h=>
   cases h with
   |el b off _ f hcell h=>exact⟨b,off,fun i y hy=>⟨rfl,f i,(hcell i y hy).2,.fr _ _ (h i y hy)⟩⟩
 |eptr o n off=>
  simp only[St.at_] at hx
  cases ho:Qb st.H o with
  |none=>rw[ho] at hx;cases hx
  |some ob=>
   rw[ho] at hx
   cases ob with
   |arr t k es=>
    simp only at hx
    cases hb:Nat.beq es.length n with
    |false=>rw[hb] at hx;cases hx
    |true=>
     rw[hb] at hx
     have hn:=Nat.eq_of_beq_eq_true hb
     cases hx
     obtain⟨hk,v0,hv0,hor,_⟩:=hr.live o _ ho
     cases hor with
     |arr _ _ _ _ xs hown hks hp hn'=>
      cases hv with
      |fr _ _ h=>cases h
      |eptr _ _ _ _ _ hV=>
       have hlen:es.flatten.length=xs.length:=by
        have:∀(l:List (List AV)),(∀e∈l,e.length=k)→l.flatten.length=l.length*k:=by
         intro l
         induction l with
         |nil=>simp
         |cons e l ih=>intro h;simp[h e (by simp),ih (fun e he=>h e (by simp[he])),Nat.add_mul,Nat.add_comm]
        rw[this es hks,hown.1]
       by_cases hany:∃(i:Nat) (y:AV),(es.flatten.drop off)[i]?=some y
       ·obtain⟨i0,y0,h0⟩:=hany
        rw[List.getElem?_drop] at h0
        have hi0:=(List.getElem?_eq_some_iff.1 h0).1
        obtain⟨g,cap,hg,_⟩:=Qa7 hown (List.getElem?_eq_getElem (show off+i0<xs.length by omega));rw[hg] at hv0;obtain⟨_,h2⟩:=hV _ _ _ hv0;obtain⟨b,hb1,hb2⟩:=h2 hn.symm
        have hgb:g=b:=by simpa using hb1
        subst hgb
        refine⟨g,off,fun i y hy=>⟨hb2,?_⟩⟩;rw[List.getElem?_drop] at hy
        have hi:=(List.getElem?_eq_some_iff.1 hy).1
        have hi':off+i<xs.length:=by omega
        obtain⟨g',cap',hg',hc'⟩:=Qa7 hown (List.getElem?_eq_getElem hi');rw[hg] at hg'
        have:g=g':=by simpa using (Value.slice.inj hg').1
        subst this
        exact⟨xs[off+i],hc',hp _ _ _ (List.getElem?_eq_getElem hi') hy⟩
       exact⟨0,0,fun i y hy=>absurd ⟨i,y,hy⟩ hany⟩
   |var t cs=>cases hx
   |tok t k n=>cases hx
 |_=>cases hx
theorem QcJ {α:Type}{p:Nat→α→Prop}:∀n,(∀j,j<n→∃x,p j x)→∃l:List α,l.length=n∧∀j x,l[j]?=some x→p j x
 |0,_=>⟨[],rfl,by simp⟩
 |n+1,h=>by
  obtain⟨l,hl,hp⟩:=QcJ n (fun j hj=>h j (by omega));obtain⟨x,hx⟩:=h n (by omega);refine⟨l++[x],by simp[hl],fun j y hj=>?_⟩
  rcases Nat.lt_or_ge j l.length with h1|h1
  ·rw[List.getElem?_append_left h1] at hj;exact hp j y hj
  ·rw[List.getElem?_append_right h1] at hj
   have:j-l.length=0:=by
    have:=(List.getElem?_eq_some_iff.1 hj).1
    simp at this;omega
   rw[this] at hj
   simp at hj
   subst hj
   have:j=n:=by omega
   subst this
   exact hx
def W7 (row:Bool)(n:Nat)(cs:List AV):Option AV:=
 match row,cs with
 |false,x::_=>some x
 |true,cs=>bif Nat.ble n cs.length then some (.agg (cs.take n)) else none
 |false,[]=>none
theorem Qvy (t:TypeId)(x:Operand)(ho:o.op=.load t x){n:Nat}{row:Bool}[hT:XV P t n row](hn:0<n)(ax:AV)(hx:st.ev x=ax)(cs:List AV)(hc:st.at_ ax=some cs)(r:AV)(hl:W7 row n cs=some r):PY P E o st r:=by
 refine Kh fun st' h1 h2 c a hr=>?_
 have hv:=hr.ev x
 rw[h1 x (by simp[ho,Op.operands]),hx] at hv
 have hc':st'.at_ ax=some cs:=by
  exact St.at_keep h2 hc
 obtain⟨b,off,hat⟩:=hr.at_ hv hc';obtain⟨i,hi,hsz⟩:=JD hT.size;obtain⟨d,hd,hdr⟩:=Qdg hT.row
 have ex:∀v:Value,(Instr.loadAt t (a.eval x)).run P c.w=.ok v c.w→(execOp a.eval o).run P c.w=.ok (.value v) c.w:=fun v hv=>by simp[execOp,ho,hv]
 cases row with
 |false=>
  cases cs with
  |nil=>cases hl
  |cons y ys=>
   cases hl
   obtain⟨hp,u,hu,hvr⟩:=hat 0 _ rfl;refine⟨u,ex u ?_,hvr⟩;rw[hp]
   simp[Instr.loadAt,Instr.sureAddr,loadVar,Qaw hT.row,show c.w.cell? ⟨b,off,none⟩=some u from hu]
 |true=>
  simp only[W7] at hl
  cases hb:Nat.ble n cs.length with
  |false=>rw[hb] at hl;cases hl
  |true=>
   rw[hb] at hl
   cases hl
   have hnl:n≤cs.length:=Nat.le_of_ble_eq_true hb
   obtain⟨us,hul,hus⟩:=QcJ (p:=fun j u=>c.w.cell? ⟨b,off+j,none⟩=some u∧∀y,cs[j]?=some y→VR c u y) n (fun j hj=>by
    obtain⟨_,u,hu,hvr⟩:=hat j cs[j] (List.getElem?_eq_getElem (by omega))
    exact⟨u,hu,fun y hy=>by rw[List.getElem?_eq_getElem (by omega)] at hy;cases hy;exact hvr⟩)
   obtain⟨hp,_⟩:=hat 0 cs[0] (List.getElem?_eq_getElem (by omega));refine⟨.agg us.toArray,ex _ ?_,.agg us (cs.take n) (by simp;omega) (fun i v y h1 h2=>?_)⟩
   ·rw[hp]
    exact run_loadAt_mid c.w b off t us d (fun j v hj=>(hus j v hj).1) hd hdr (by rw[hi,Option.map_some,hsz,hul])
   ·rw[List.getElem?_take] at h2
    split at h2
    ·exact(hus i v h1).2 y h2
    ·cases h2
theorem QpE (x:Operand)(ho:o.op=.move x∨o.op=.assign x)(r:AV)(hx:st.ev x=r):PY P E o st r:=by
 refine Kh fun st' h1 h2 c a hr=>?_
 have hv:=hr.ev x
 rw[h1 x (by rcases ho with ho|ho<;>simp[ho,Op.operands]),hx] at hv;exact⟨_,by rcases ho with ho|ho<;>simp[execOp,ho],hv⟩
theorem QoT (q x y:Operand)(ho:o.op=.pick q x y)(b:Bool)(hq:st.ev q=.p (.bool b))(r:AV)(hx:(bif b then st.ev x else st.ev y)=r):PY P E o st r:=by
 refine Kh fun st' h1 h2 c a hr=>?_
 have hv:=hr.ev q
 rw[h1 q (by simp[ho,Op.operands]),hq] at hv
 have hv:=hv.p_inv
 have hvx:=hr.ev x
 have hvy:=hr.ev y
 rw[h1 x (by simp[ho,Op.operands])] at hvx;rw[h1 y (by simp[ho,Op.operands])] at hvy
 cases b
 ·refine⟨a.eval y,by simp[execOp,ho,hv,asBool],?_⟩
  rw[←hx];exact hvy
 ·refine⟨a.eval x,by simp[execOp,ho,hv,asBool],?_⟩
  rw[←hx];exact hvx
def moved (d:Nat):AV→Option AV
 | .ptr o off=>some (.ptr o (off+d))
 | .el cs=>some (.el (cs.drop d))
 | .eptr o n off=>some (.eptr o n (off+d))
 |_=>none
theorem VR.moved {c:Cx}{b off:Nat}{x:AV}(hv:VR c (.pointer (some ⟨b,off,none⟩)) x){d:Nat}{y:AV}(hy:moved d x=some y):VR c (.pointer (some ⟨b,off+d,none⟩)) y:=by
 cases x with
 |ptr o off'=>
  cases hy
  cases hv with
  |fr _ _ h=>cases h
  |ptr _ _ _ hK hV=>
   refine .ptr _ _ _ hK fun b' hb'=>?_
   have:=hV b' hb'
   simp at this
   simp[this]
 |el cs=>
  cases hy
  cases hv with
  |fr _ _ h=>
   cases h with
   |el _ _ _ f hcell h=>
    refine .fr _ _ (.el b (off+d) (cs.drop d) (fun i=>f (d+i)) (fun i x hx=>?_) (fun i x hx=>?_))
    ·rw[List.getElem?_drop] at hx
     have:=hcell _ _ hx
     rwa [←Nat.add_assoc] at this
    rw[List.getElem?_drop] at hx;exact h _ _ hx
 |eptr o n off'=>
  cases hy
  cases hv with
  |fr _ _ h=>cases h
  |eptr _ _ _ _ hK hV=>
   refine .eptr _ _ _ _ hK fun A n' cap hb'=>?_
   obtain⟨h1,h2⟩:=hV A n' cap hb';refine⟨h1,fun e=>?_⟩;obtain⟨b',hb1,hb2⟩:=h2 e
   simp at hb2
   exact⟨b',hb1,by simp[hb2]⟩
 |_=>cases hy
theorem Addr.add_mk (b off d:Nat):(⟨b,off,none⟩:Addr).add d=⟨b,off+d,none⟩:=by
 unfold Addr.add;split
 ·subst_vars;rfl
 ·rfl
theorem Qkt (s f:Nat)(x:Operand)(ho:o.op=.fieldAddr s x f){off n:Nat}{row:Bool}[hT:Q4 P s f off n row](ax:AV)(hx:st.ev x=ax)(cs:List AV)(hc:st.at_ ax=some cs)(hne:cs≠[])(r:AV)(hm:moved off ax=some r):PY P E o st r:=by
 refine Kh fun st' h1 h2 c a hr=>?_
 have hv:=hr.ev x
 rw[h1 x (by simp[ho,Op.operands]),hx] at hv
 have hc':st'.at_ ax=some cs:=by
  exact St.at_keep h2 hc
 obtain⟨b,off0,hat⟩:=hr.at_ hv hc';obtain⟨y,ys,rfl⟩:=List.exists_cons_of_ne_nil hne;obtain⟨hp,_⟩:=hat 0 y rfl;rw[hp] at hv;obtain⟨ft,h3,h4,_⟩:=hT.h
 have hpos:=hT.pos
 refine⟨.pointer (some ⟨b,off0+off,none⟩),?_,hv.moved hm⟩
 unfold Qf3 at h3
 split at h3
 ·rename_i fs hfs
  cases hfl:fs[f]? with
  |none=>rw[hfl] at h3;cases h3
  |some fl=>
   rw[hfl] at h3
   simp only[Option.map_some,Option.some.injEq,Prod.mk.injEq] at h3
   obtain⟨e1,e2⟩:=h3
   subst e1 e2
   have hz:n≠0:=by omega
   simp[execOp,ho,hp,Instr.fieldAt,run_underlying hfs,hfl,Instr.sureAddr,fieldPlace,X6 h4,hz,Addr.add_mk]
 cases h3
end
def AV.fz1:AV→Option AV
 | .p (.slice none 0 0)=>some (.sl [] none)
 | .p v=>some (.p v)
 | .bot=>some .bot
 | .emp=>some (.sl [] none)
 | .sl es _=>some (.sl es none)
 | .el cs=>some (.el cs)
 |_=>none
def fzs:List AV→Option (List AV)
 |[]=>some []
 |x::xs=>match x.fz1,fzs xs with
  |some y,some ys=>some (y::ys)
  |_,_=>none
def AV.fz:AV→Option AV
 | .agg cs=>(fzs cs).map .agg
 | .fn f cs=>(fzs cs).map (.fn f)
 |x=>x.fz1
def fzl:List AV→Option (List AV)
 |[]=>some []
 |x::xs=>match x.fz,fzl xs with
  |some y,some ys=>some (y::ys)
  |_,_=>none
theorem FR.nil (w:World)(S:Nat→Nat→Prop)(A:Option Addr)(c:Nat)(hc:c≤maxLen):FR w S (.slice A 0 c) (.sl [] none):=
 .sl A 0 c 0 [] 0 0 (fun _ _=>undef) rfl (Nat.zero_le _) hc (fun h=>absurd h (Nat.lt_irrefl 0)) (by simp) (by simp) (by simp)
section
variable {c:Cx}
theorem VR.fz1 {v:Value}{x y:AV}(hv:VR c v x)(h:x.fz1=some y):FR c.w c.S v y:=by
 cases x with
 |bot=>cases h;exact .bot v
 |p u=>
  have:=hv.p_inv
  subst this
  by_cases e:v=.slice none 0 0
  ·subst e;cases h;exact .nil _ _ _ _ (Nat.zero_le _)
  have h2:AV.fz1 (.p v)=some (.p v):=by
   unfold AV.fz1;split<;>simp_all
  rw[h2] at h;cases h;exact .p _
 |emp=>
  cases h
  cases hv with|fr _ _ h=>cases h;exact .nil _ _ _ _ (Nat.zero_le _)
 |sl es tk=>cases h;exact hv.sl_inv
 |el cs=>
  cases h
  cases hv with|fr _ _ h=>exact h
 |_=>cases h
theorem Wa:∀ {xs ys:List AV},fzs xs=some ys→ys.length=xs.length∧∀(i:Nat) (x y:AV),xs[i]?=some x→ys[i]?=some y→x.fz1=some y
 |[],ys,h=>by cases h;exact⟨rfl,by simp⟩
 |x::xs,ys,h=>by
  unfold fzs at h
  split at h
  ·rename_i y ys' h1 h2
   cases h
   obtain⟨h3,h4⟩:=Wa h2;refine⟨by simp[h3],fun i a b ha hb=>?_⟩
   cases i with
   |zero=>simp at ha hb;subst ha hb;exact h1
   |succ i=>simp at ha hb;exact h4 i a b ha hb
  ·cases h
theorem VR.cells_fz {vs:List Value}{xs ys:List AV}(hl:vs.length=xs.length)(hv:∀(i:Nat) (v:Value) (x:AV),vs[i]?=some v→xs[i]?=some x→VR c v x)(h:fzs xs=some ys):
  vs.length=ys.length∧∀(i:Nat) (v:Value) (y:AV),vs[i]?=some v→ys[i]?=some y→FR c.w c.S v y:=by
 obtain⟨h1,h2⟩:=Wa h;refine⟨by omega,fun i v y hi hj=>?_⟩
 have hix:i<xs.length:=by have:=(List.getElem?_eq_some_iff.1 hj).1;omega
 exact(hv i v _ hi (List.getElem?_eq_getElem hix)).fz1 (h2 i _ y (List.getElem?_eq_getElem hix) hj)
theorem VR.fz {v:Value}{x y:AV}(hv:VR c v x)(h:x.fz=some y):FR c.w c.S v y:=by
 cases x with
 |agg cs=>
  simp only[AV.fz] at h
  cases hz:fzs cs with
  |none=>rw[hz] at h;cases h
  |some ys=>
   rw[hz] at h;cases h
   cases hv with
   |fr _ _ h=>
    cases h with
    |agg vs _ hl h=>
     obtain⟨h1,h2⟩:=VR.cells_fz (c:=c) hl (fun i v x h1 h2=>.fr _ _ (h i v x h1 h2)) hz;exact .agg vs ys h1 h2
   |agg vs _ hl h=>
    obtain⟨h1,h2⟩:=VR.cells_fz hl h hz;exact .agg vs ys h1 h2
 |fn f cs=>
  simp only[AV.fz] at h
  cases hz:fzs cs with
  |none=>rw[hz] at h;cases h
  |some ys=>
   rw[hz] at h;cases h
   cases hv with
   |fr _ _ h=>
    cases h with
    |fn _ vs _ hl h=>
     obtain⟨h1,h2⟩:=VR.cells_fz (c:=c) hl (fun i v x h1 h2=>.fr _ _ (h i v x h1 h2)) hz;exact .fn f vs ys h1 h2
   |fn _ vs _ hl h=>
    obtain⟨h1,h2⟩:=VR.cells_fz hl h hz;exact .fn f vs ys h1 h2
 |_=>exact hv.fz1 h
theorem QcD:∀ {xs ys:List AV},fzl xs=some ys→ys.length=xs.length∧∀(i:Nat) (x y:AV),xs[i]?=some x→ys[i]?=some y→x.fz=some y
 |[],ys,h=>by cases h;exact⟨rfl,by simp⟩
 |x::xs,ys,h=>by
  unfold fzl at h
  split at h
  ·rename_i y ys' h1 h2
   cases h
   obtain⟨h3,h4⟩:=QcD h2;refine⟨by simp[h3],fun i a b ha hb=>?_⟩
   cases i with
   |zero=>simp at ha hb;subst ha hb;exact h1
   |succ i=>simp at ha hb;exact h4 i a b ha hb
  cases h
end
def FRs (w:World)(S:Nat→Nat→Prop)(vs:List Value)(xs:List AV):Prop:=
 vs.length=xs.length∧∀(i:Nat) (v:Value) (x:AV),vs[i]?=some v→xs[i]?=some x→FR w S v x
def FC (P:Program)(f:FuncId)(args:List AV)(res:AV):Prop:=
 ∀(w:World) (S:Nat→Nat→Prop) (vs:List Value),(∀b o,S b o→b<w.heap.size)→FRs w S vs args →
  Calls P f vs.toArray w fun e w'=>∃v S',e=.returned v∧Bel w w'∧(∀b o,S b o→S' b o) ∧
   (∀b o,S' b o→S b o∨(w.heap.size≤b∧b<w'.heap.size))∧FR w' S' v res
class Xl (P:Program) (f:FuncId):Prop where
 h:∀(args:Array Value) (w:World),(callFunc f args).run P w=.ok (.enter f args) w
section
variable {P:Program}{E:X7}{st:St}{o:Oper}
theorem Qx3 (f:FuncId)(xs:Array Operand)(ts:Array TypeId)(ho:o.op=.call { callee:=.value (.func f),args:=xs,argTypes:=ts })[hf:Xl P f]
  (as bs:List AV) (ha:xs.toList.map st.ev=as) (hb:fzl as=some bs) (r:AV) (hc:FC P f bs r):PY P E o st r:=by
 intro st' h1 h2 c a hr K Q hK
 have hev:xs.toList.map st'.ev=as:=by
  rw[←ha]
  refine List.map_congr_left fun y hy=>h1 y ?_
  simp only[ho,Op.operands,Call.operands]
  simp[Array.mem_toList_iff.1 hy]
 obtain⟨h3,h4⟩:=QcD hb
 have hl:as.length=xs.size:=by rw[←ha];simp
 have hfrs:FRs c.w c.S (xs.toList.map a.eval) bs:=by
  refine⟨by simp[h3,hl],fun i v y hi hj=>?_⟩
  have hix:i<as.length:=by have:=(List.getElem?_eq_some_iff.1 hj).1;omega
  have hvx:VR c v as[i]:=by
   rw[List.getElem?_map] at hi
   cases hq:xs.toList[i]? with
   |none=>rw[hq] at hi;cases hi
   |some q=>
    rw[hq] at hi;cases hi
    have:as[i]?=some (st'.ev q):=by rw[←hev,List.getElem?_map,hq];rfl
    rw[List.getElem?_eq_getElem hix] at this;rw[Option.some.inj this];exact hr.ev q
  exact hvx.fz (h4 i _ y (List.getElem?_eq_getElem hix) hj)
 have hcall:=hc c.w c.S _ hr.Ssz hfrs
 have hrun:(execOp a.eval o).run P c.w=.ok (.enter f (xs.toList.map a.eval).toArray) c.w:=by
  have e1:a.eval (.func f)=.func (.func f) #[] #[]:=rfl
  have e2:(xs.toList.map a.eval).toArray=xs.map a.eval:=by apply Array.ext';simp
  simp[execOp,ho,resolve,invoke,e1,Deferred.ofValue,hf.h,e2]
 unfold Oper.wp
 rw[hrun,Oper.upon_enter];refine hcall.mono ?_;rintro e w' ⟨v,S',rfl,hw,hS,hS',hv⟩;obtain⟨hle,hr'⟩:=hr.ext hw hS hS';exact hK ⟨w',S',c.V,c.K⟩ v hr' (.fr _ _ hv)
theorem Qwg (x:Operand)(t:TypeId)(ho:o.op=.call { callee:=.builtin .len,args := #[x],argTypes := #[t] }){e:TypeId}{n:Nat}[hT:JJ P t e n]
  (es:List (List AV)) (tk:Option Nat) (hx:st.ev x=.sl es tk):PY P E o st (.p (.int .i64 (es.length:Nat))):=by
 refine Kh fun st' h1 h2 c a hr=>?_
 have hv:=hr.ev x
 rw[h1 x (by simp[ho,Op.operands,Call.operands]),hx] at hv;obtain⟨A,cc,hA,_⟩:=hv.sl_inv.sl_val;refine⟨.int .i64 (es.length:Nat),?_,.fr _ _ (.p _)⟩
 simp[execOp,ho,resolve,invoke,builtin,Builtin.len_,hA,run_underlying (Xq hT.h),goInt]
theorem QsH (x:Operand)(t:TypeId)(ho:o.op=.call { callee:=.builtin .len,args := #[x],argTypes := #[t] }){e:TypeId}{n:Nat}[hT:JJ P t e n]
  (hx:st.ev x=.p (.slice none 0 0)):PY P E o st (.p (.int .i64 0)):=by
 refine Kh fun st' h1 h2 c a hr=>?_
 have hv:=hr.ev x
 rw[h1 x (by simp[ho,Op.operands,Call.operands]),hx] at hv;refine⟨.int .i64 0,?_,.fr _ _ (.p _)⟩
 simp[execOp,ho,resolve,invoke,builtin,Builtin.len_,hv.p_inv,run_underlying (Xq hT.h),goInt]
theorem Qnu (x:Operand)(t:TypeId)(ho:o.op=.call { callee:=.builtin .len,args := #[x],argTypes := #[t] })[hT:Qnr P t]
  (s:ByteArray) (hx:st.ev x=.p (.string s)):PY P E o st (.p (.int .i64 (s.size:Nat))):=by
 refine Kh fun st' h1 h2 c a hr=>?_
 have hv:=hr.ev x
 rw[h1 x (by simp[ho,Op.operands,Call.operands]),hx] at hv;refine⟨.int .i64 (s.size:Nat),?_,.fr _ _ (.p _)⟩
 simp[execOp,ho,resolve,invoke,builtin,Builtin.len_,hv.p_inv,run_underlying (Qih hT.h),goInt]
theorem Qu7 (t:TypeId)(x ix:Operand)(ho:o.op=.indexAddr t x ix){e:TypeId}{n:Nat}[hT:JJ P t e n]
  (es:List (List AV)) (tk:Option Nat) (hx:st.ev x=.sl es tk) (k:IntKind) (i:Int) (hi:st.ev ix=.p (.int k i)) (j:Nat) (hij:i=(j:Int)) (cs:List AV) (hj:es[j]?=some cs) (hn:cs.length=n):PY P E o st (.el cs):=by
 refine Kh fun st' h1 h2 c a hr=>?_
 have hv:=hr.ev x
 rw[h1 x (by simp[ho,Op.operands]),hx] at hv
 have hvi:=hr.ev ix
 rw[h1 ix (by simp[ho,Op.operands]),hi] at hvi
 have hvi:=hvi.p_inv
 have hfr:=hv.sl_inv
 have hjl:j<es.length:=(List.getElem?_eq_some_iff.1 hj).1
 generalize hvx:a.eval x=vx at *
 cases hfr with
 |sl A m cc k' _ b off f hl hm hcc hA hk hcell h=>
  subst hl
  have hk':k'=n:=by rw[←hk j cs hj,hn]
  subst hk'
  obtain rfl:=hA (by omega);refine⟨.pointer (some ⟨b,off+j*k',none⟩),?_,.fr _ _ (.el b (off+j*k') cs (fun q=>f j q) (fun q y hq=>?_) (fun q y hq=>h j cs q y hj hq))⟩
  ·subst hij
   simp[execOp,ho,Instr.indexAt,hvi,hvx,asIntOf,run_underlying (Xq hT.h),hjl,X6 hT.size,Addr.add_mk]
  ·exact hcell j cs q y hj hq
theorem Qwa (t:TypeId)(x ix:Operand)(ho:o.op=.indexAddr t x ix){len:Nat}{e:TypeId}{n:Nat}[hT:Qta P t len e n]
  (ax:AV) (hx:st.ev x=ax) (k:IntKind) (i:Int) (hi:st.ev ix=.p (.int k i)) (j:Nat) (hij:i=(j:Int)) (hj:j<len) (cs:List AV) (hc:st.at_ ax=some cs) (hne:cs≠[]) (r:AV) (hm:moved (j*n) ax=some r):PY P E o st r:=by
 refine Kh fun st' h1 h2 c a hr=>?_
 have hv:=hr.ev x
 rw[h1 x (by simp[ho,Op.operands]),hx] at hv
 have hvi:=hr.ev ix
 rw[h1 ix (by simp[ho,Op.operands]),hi] at hvi
 have hvi:=hvi.p_inv
 have hc':st'.at_ ax=some cs:=by
  exact St.at_keep h2 hc
 obtain⟨b,off0,hat⟩:=hr.at_ hv hc';obtain⟨y,ys,rfl⟩:=List.exists_cons_of_ne_nil hne;obtain⟨hp,_⟩:=hat 0 y rfl;rw[hp] at hv;refine⟨.pointer (some ⟨b,off0+j*n,none⟩),?_,hv.moved hm⟩
 subst hij
 simp[execOp,ho,Instr.indexAt,hvi,hp,asIntOf,run_underlying (Qe4 hT.h),hj,X6 hT.size,Addr.add_mk,Instr.sureAddr]
theorem Qvg (t:TypeId)(x ix:Operand)(ho:o.op=.index t x ix)[hT:Qnr P t](s:ByteArray)(hx:st.ev x=.p (.string s))(k:IntKind)(i:Int)(hi:st.ev ix=.p (.int k i))
  (j:Nat) (hij:i=(j:Int)) (u:UInt8) (hj:s.data.toList[j]?=some u):PY P E o st (.p (.int .u8 u.toNat)):=by
 refine Kh fun st' h1 h2 c a hr=>?_
 have hv:=hr.ev x
 rw[h1 x (by simp[ho,Op.operands]),hx] at hv
 have hvi:=hr.ev ix
 rw[h1 ix (by simp[ho,Op.operands]),hi] at hvi
 have hv:=hv.p_inv
 have hvi:=hvi.p_inv
 have hjl:j<s.size:=by have:=(List.getElem?_eq_some_iff.1 hj).1;simpa using this
 refine⟨.int .u8 u.toNat,?_,.fr _ _ (.p _)⟩
 subst hij
 have e1:s[j]?=some u:=by
  rw[ByteArray.getElem?_lt' s j hjl];rw[List.getElem?_eq_getElem (by simpa using hjl)] at hj;exact hj
 have e2:(if (0:Int)≤(j:Int) then s[(j:Int).toNat]? else none)=some u:=by simp[e1]
 simp[execOp,ho,Instr.index,hvi,hv,asIntOf,run_underlying (Qih hT.h),e1]
theorem Qly (t:TypeId)(x:Operand)(lo hi:Option Operand)(ho:o.op=.slice t x lo hi none){e:TypeId}{n:Nat}[hT:JJ P t e n](es:List (List AV))(tk:Option Nat)(hx:st.ev x=.sl es tk)
  (l h:Nat) (hlo:lo=none∧l=0∨∃y k,lo=some y∧st.ev y=.p (.int k (l:Int))) (hhi:hi=none∧h=es.length∨∃y k,hi=some y∧st.ev y=.p (.int k (h:Int))) (hlh:l≤h) (hh:h≤es.length) (hn:∀e∈es,e.length=n) :
  PY P E o st (.sl ((es.take h).drop l) none):=by
 refine Kh fun st' h1 h2 c a hr=>?_
 have hv:=hr.ev x
 rw[h1 x (by simp[ho,Op.operands]),hx] at hv
 have hfr:=hv.sl_inv
 generalize hvx:a.eval x=vx at *
 have hlen:((es.take h).drop l).length=h-l:=by simp;omega
 cases hfr with
 |sl A m cc k' _ b off f hl hm hcc hA hk hcell hfr=>
  subst hl
  have hlv:(lo.map a.eval=none∧l=0)∨∃k,lo.map a.eval=some (.int k (l:Int)):=by
   rcases hlo with ⟨e1,e2⟩|⟨y,k,e1,e2⟩
   ·exact .inl ⟨by rw[e1];rfl,e2⟩
   have:=hr.ev y
   rw[h1 y (by simp[ho,Op.operands,e1]),e2] at this;exact .inr ⟨k,by rw[e1,Option.map_some,this.p_inv]⟩
  have hhv:(hi.map a.eval=none∧h=es.length)∨∃k,hi.map a.eval=some (.int k (h:Int)):=by
   rcases hhi with ⟨e1,e2⟩|⟨y,k,e1,e2⟩
   ·exact .inl ⟨by rw[e1];rfl,e2⟩
   have:=hr.ev y
   rw[h1 y (by simp[ho,Op.operands,e1]),e2] at this;exact .inr ⟨k,by rw[e1,Option.map_some,this.p_inv]⟩
  refine⟨.slice (if cc=l then A else A.map (·.add (l*n))) (h-l) (cc-l),?_,.fr _ _ (.sl _ (h-l) (cc-l) n _ b (off+l*n) (fun j q=>f (l+j) q) hlen (by omega) (by omega) (fun hpos=>?_) (fun j e' hj=>?_) (fun j e' q y hj hq=>?_) (fun j e' q y hj hq=>?_))⟩
  ·have hb:(Instr.sliceBounds true es.length cc (lo.map a.eval) (hi.map a.eval) none).run P c.w=.ok (l,h,cc) c.w:=by
    have hle:h≤cc:=by omega
    rcases hlv with ⟨e1,e2⟩|⟨k1,e1⟩<;>rcases hhv with ⟨e3,e4⟩|⟨k2,e3⟩
    ·subst e2 e4;simp[Instr.sliceBounds,e1,e3]
    ·subst e2;simp[Instr.sliceBounds,e1,e3,Instr.sliceBound,asIntOf,hle]
    ·subst e4;simp[Instr.sliceBounds,e1,e3,Instr.sliceBound,asIntOf,hlh]
    simp[Instr.sliceBounds,e1,e3,Instr.sliceBound,asIntOf,hlh,hle]
   simp[execOp,ho,Instr.sliceAt,Instr.slice,hvx,run_underlying (Xq hT.h),hb,X6 hT.size]
  ·rw[hA (by omega),if_neg (by omega),Option.map_some,Addr.add_mk]
  ·rw[List.getElem?_drop,List.getElem?_take] at hj
   split at hj
   ·exact hn e' (List.mem_of_getElem? hj)
   cases hj
  ·rw[List.getElem?_drop,List.getElem?_take] at hj
   split at hj
   ·have hk':k'=n:=by rw[←hk _ _ hj];exact hn e' (List.mem_of_getElem? hj)
    subst hk'
    have:=hcell _ _ q y hj hq
    rwa [Nat.add_mul,←Nat.add_assoc] at this
   cases hj
  ·rw[List.getElem?_drop,List.getElem?_take] at hj
   split at hj
   ·exact hfr _ _ q y hj hq
   ·cases hj
theorem Qn0 (x:Operand)(i:Nat)(ho:o.op=.extract x i)(xs:List AV)(hx:st.ev x=.tup xs)(r:AV)(hi:xs[i]?=some r):PY P E o st r:=by
 refine Kh fun st' h1 h2 c a hr=>?_
 have hv:=hr.ev x
 rw[h1 x (by simp[ho,Op.operands]),hx] at hv
 generalize hvx:a.eval x=vx at *
 have key:∃vs:List Value,vx=.tuple vs.toArray∧vs.length=xs.length∧∀(i:Nat) (v:Value) (x:AV),vs[i]?=some v→xs[i]?=some x→VR c v x:=by
  cases hv with
  |fr _ _ h=>cases h with|tup vs _ hl h=>exact⟨vs,rfl,hl,fun i v x h1 h2=>.fr _ _ (h i v x h1 h2)⟩
  |tup vs _ hl h=>exact⟨vs,rfl,hl,h⟩
 obtain⟨vs,rfl,hl,hp⟩:=key
 have hiv:i<vs.length:=by have:=(List.getElem?_eq_some_iff.1 hi).1;omega
 exact⟨vs[i],by simp[execOp,ho,hvx,Instr.extract,hiv],hp i _ _ (List.getElem?_eq_getElem hiv) hi⟩
theorem Qmj (f:FuncId)(cap:Array Operand)(ho:o.op=.makeFunc (.func f) #[] cap)(r:List AV)(hx:cap.toList.map st.ev=r):PY P E o st (.fn f r):=by
 refine Kh fun st' h1 h2 c a hr=>?_
 have hev:cap.toList.map st'.ev=r:=by
  rw[←hx]
  refine List.map_congr_left fun y hy=>h1 y ?_
  simp[ho,Op.operands,Array.mem_toList_iff.1 hy]
 refine⟨.func (.func f) #[] (cap.toList.map a.eval).toArray,?_,.fn f (cap.toList.map a.eval) r (by rw[←hx];simp) (fun i v x hi hj=>?_)⟩
 ·have e2:(cap.toList.map a.eval).toArray=cap.map a.eval:=by apply Array.ext';simp
  simp[execOp,ho,Instr.makeFunc,e2]
 ·rw[←hev,List.getElem?_map] at hj
  rw[List.getElem?_map] at hi
  cases hq:cap.toList[i]? with
  |none=>rw[hq] at hi;cases hi
  |some q=>
   rw[hq] at hi hj;cases hi;cases hj
   exact hr.ev q
def QoD (row:Bool)(off n:Nat)(cs:List AV):Option AV:=
 match row with
 |false=>cs[off]?
 |true=>bif Nat.ble (off+n) cs.length then some (.agg ((cs.drop off).take n)) else none
theorem Qrg (s f:Nat)(x:Operand)(ho:o.op=.field s x f){off n:Nat}{row:Bool}[hT:Q4 P s f off n row](cs:List AV)(hx:st.ev x=.agg cs)(r:AV)(hp:QoD row off n cs=some r):PY P E o st r:=by
 refine Kh fun st' h1 h2 c a hr=>?_
 have hv:=hr.ev x
 rw[h1 x (by simp[ho,Op.operands]),hx] at hv
 generalize hvx:a.eval x=vx at *
 have key:∃vs:List Value,vx=.agg vs.toArray∧vs.length=cs.length∧∀(i:Nat) (v:Value) (x:AV),vs[i]?=some v→cs[i]?=some x→VR c v x:=by
  cases hv with
  |fr _ _ h=>cases h with|agg vs _ hl h=>exact⟨vs,rfl,hl,fun i v x h1 h2=>.fr _ _ (h i v x h1 h2)⟩
  |agg vs _ hl h=>exact⟨vs,rfl,hl,h⟩
 obtain⟨vs,rfl,hl,hpw⟩:=key;obtain⟨ft,h3,h4,h5⟩:=hT.h
 have hrun:∀v,(Go.part ft vs.toArray off).run P c.w=.ok v c.w→(execOp a.eval o).run P c.w=.ok (.value v) c.w:=by
  intro v hv
  unfold Qf3 at h3
  split at h3
  ·rename_i fs hfs
   cases hfl:fs[f]? with
   |none=>rw[hfl] at h3;cases h3
   |some fl=>
    rw[hfl] at h3
    simp only[Option.map_some,Option.some.injEq,Prod.mk.injEq] at h3
    obtain⟨e1,e2⟩:=h3
    subst e1 e2
    simp[execOp,ho,Instr.field,run_underlying hfs,hfl,hvx,asAgg,hv]
  cases h3
 cases row with
 |false=>
  simp only[QoD] at hp
  have hov:off<vs.length:=by have:=(List.getElem?_eq_some_iff.1 hp).1;omega
  exact⟨vs[off],hrun _ (by simp[Go.part,Qaw h5,hov]),hpw off _ _ (List.getElem?_eq_getElem hov) hp⟩
 |true=>
  simp only[QoD] at hp
  cases hb:Nat.ble (off+n) cs.length with
  |false=>rw[hb] at hp;cases hp
  |true=>
   rw[hb] at hp;cases hp
   have hle:=Nat.le_of_ble_eq_true hb
   refine⟨.agg ((vs.drop off).take n).toArray,hrun _ ?_,.agg _ _ (by simp;omega) (fun i v y hi hj=>?_)⟩
   ·simp[Go.part,Qaw h5,X6 h4]
   rw[List.getElem?_take] at hi hj
   split at hi
   ·rename_i hlt
    rw[if_pos hlt] at hj;rw[List.getElem?_drop] at hi hj;exact hpw _ v y hi hj
   cases hi
end
class QaG (P:Program) (t:TypeId) (op:BinOp) (u u':Value) (v:outParam Value):Prop where
 h:∀x y w,(do eqGuard op t x y u u';binOp op t u u':Sem Value).run P w=.ok v w
section
variable {P:Program}{t:TypeId}{k:IntKind}{a b:Int}
instance:QaG P t .add (.int k a) (.int k b) (.int k (k.wrap (a+b))):=⟨fun x y w=>by simp[eqGuard_at_int,binOp,Op.intArith]⟩
instance:QaG P t .sub (.int k a) (.int k b) (.int k (k.wrap (a-b))):=⟨fun x y w=>by simp[eqGuard_at_int,binOp,Op.intArith]⟩
instance:QaG P t .mul (.int k a) (.int k b) (.int k (k.wrap (a*b))):=⟨fun x y w=>by simp[eqGuard_at_int,binOp,Op.intArith]⟩
instance:QaG P t .eql (.int k a) (.int k b) (.bool (a==b)):=⟨fun x y w=>by simp[eqGuard_at_int,binOp,Op.intCmp]⟩
instance:QaG P t .neq (.int k a) (.int k b) (.bool (a != b)):=⟨fun x y w=>by simp[eqGuard_at_int,binOp,Op.intCmp]⟩
instance:QaG P t .lss (.int k a) (.int k b) (.bool (decide (a<b))):=⟨fun x y w=>by simp[eqGuard_at_int,binOp,Op.intCmp]⟩
instance:QaG P t .leq (.int k a) (.int k b) (.bool (decide (a≤b))):=⟨fun x y w=>by simp[eqGuard_at_int,binOp,Op.intCmp]⟩
instance:QaG P t .gtr (.int k a) (.int k b) (.bool (decide (a > b))):=⟨fun x y w=>by simp[eqGuard_at_int,binOp,Op.intCmp]⟩
instance:QaG P t .geq (.int k a) (.int k b) (.bool (decide (a≥b))):=⟨fun x y w=>by simp[eqGuard_at_int,binOp,Op.intCmp]⟩
variable {s r:List UInt8}
instance:QaG P t .eql (.string ⟨s.toArray⟩) (.string ⟨r.toArray⟩) (.bool (s==r)):=⟨fun x y w=>by simp[eqGuard_at_string,binOp,Op.stringOp]⟩
instance:QaG P t .neq (.string ⟨s.toArray⟩) (.string ⟨r.toArray⟩) (.bool (s != r)):=⟨fun x y w=>by simp[eqGuard_at_string,binOp,Op.stringOp,bne]⟩
instance:QaG P t .lss (.string ⟨s.toArray⟩) (.string ⟨r.toArray⟩) (.bool (Op.bytesLess s r)):=⟨fun x y w=>by simp[eqGuard_at_string,binOp,Op.stringOp]⟩
instance:QaG P t .leq (.string ⟨s.toArray⟩) (.string ⟨r.toArray⟩) (.bool (Op.bytesLess s r||s==r)):=⟨fun x y w=>by simp[eqGuard_at_string,binOp,Op.stringOp]⟩
instance:QaG P t .gtr (.string ⟨s.toArray⟩) (.string ⟨r.toArray⟩) (.bool (!(Op.bytesLess s r||s==r))):=⟨fun x y w=>by simp[eqGuard_at_string,binOp,Op.stringOp]⟩
instance:QaG P t .geq (.string ⟨s.toArray⟩) (.string ⟨r.toArray⟩) (.bool (!Op.bytesLess s r)):=⟨fun x y w=>by simp[eqGuard_at_string,binOp,Op.stringOp]⟩
variable {p q:Bool}
instance [hT:QrT P t]:QaG P t .eql (.bool p) (.bool q) (.bool (p==q)):=⟨fun x y w=>by simp[eqGuard_at_bool,binOp,run_equal_bool (P:=P) w t p q (Qg1 hT.h)]⟩
instance [hT:QrT P t]:QaG P t .neq (.bool p) (.bool q) (.bool (!(p==q))):=⟨fun x y w=>by simp[eqGuard_at_bool,binOp,run_equal_bool (P:=P) w t p q (Qg1 hT.h)]⟩
end
section
variable {P:Program}{E:X7}{st:St}{o:Oper}
theorem Qnh (op:BinOp)(t ty:TypeId)(x y:Operand)(ho:o.op=.binOp op t x y ty){u u' v:Value}(hx:st.ev x=.p u)(hy:st.ev y=.p u')[hb:QaG P t op u u' v]:PY P E o st (.p v):=by
 refine Kh fun st' h1 h2 c a hr=>?_
 have hvx:=hr.ev x
 rw[h1 x (by simp[ho,Op.operands]),hx] at hvx
 have hvy:=hr.ev y
 rw[h1 y (by simp[ho,Op.operands]),hy] at hvy;refine⟨v,?_,.fr _ _ (.p _)⟩
 have:=hb.h x y c.w
 rw[←hvx.p_inv,←hvy.p_inv] at this;rw[Sem.run_bind] at this
 simp only[execOp,ho,Sem.run_bind,this,Result.andThen_ok,Sem.run_pure]
theorem Qwb (t ty:TypeId)(x y:Operand)(ho:o.op=.binOp .quo t x y ty){k:IntKind}{a b:Int}(hx:st.ev x=.p (.int k a))(hy:st.ev y=.p (.int k b))(hb:b≠0):PY P E o st (.p (.int k (k.wrap (a.tdiv b)))):=
 haveI:QaG P t .quo (.int k a) (.int k b) (.int k (k.wrap (a.tdiv b))):=⟨fun x y w=>by simp[eqGuard_at_int,binOp,Op.intDiv,hb]⟩
 Qnh .quo t ty x y ho hx hy
theorem Qxd (t ty:TypeId)(x y:Operand)(ho:o.op=.binOp .rem t x y ty){k:IntKind}{a b:Int}(hx:st.ev x=.p (.int k a))(hy:st.ev y=.p (.int k b))(hb:b≠0):PY P E o st (.p (.int k (a.tmod b))):=
 haveI:QaG P t .rem (.int k a) (.int k b) (.int k (a.tmod b)):=⟨fun x y w=>by simp[eqGuard_at_int,binOp,Op.intDiv,hb]⟩
 Qnh .rem t ty x y ho hx hy
theorem QwU (t:TypeId)(x:Operand)(ho:o.op=.unOp .not t x){b:Bool}(hx:st.ev x=.p (.bool b)):PY P E o st (.p (.bool (!b))):=by
 refine Kh fun st' h1 h2 c a hr=>?_
 have hvx:=hr.ev x
 rw[h1 x (by simp[ho,Op.operands]),hx] at hvx;exact⟨.bool (!b),by simp[execOp,ho,hvx.p_inv,Op.unary],.fr _ _ (.p _)⟩
theorem QvB (src dst:TypeId)(x:Operand)(ho:o.op=.convert src dst x){k0 k1 k:IntKind}[h0:QdE P src k0][h1:QdE P dst k1]{n:Int}(hx:st.ev x=.p (.int k n)):PY P E o st (.p (.int k1 (k1.wrap n))):=by
 refine Kh fun st' h2 h3 c a hr=>?_
 have hvx:=hr.ev x
 rw[h2 x (by simp[ho,Op.operands]),hx] at hvx;exact⟨.int k1 (k1.wrap n),by simp[execOp,ho,hvx.p_inv,convert,run_underlying (WK h0.h),run_underlying (WK h1.h),Conv.intToInt],.fr _ _ (.p _)⟩
end
def Qao:Nat→List AV→List (Nat×AV)
 |_,[]=>[]
 |i,x::xs=>(i,x)::Qao (i+1) xs
theorem Wp:∀(xs:List AV) (i j:Nat),Qb (Qao i xs) j=if i≤j then xs[j-i]? else none
 |[],i,j=>by simp[Qao,Qb]
 |x::xs,i,j=>by
  rw[Qao,Qn,Wp xs (i+1) j]
  by_cases h:j=i
  ·subst h;simp
  ·rw[if_neg h]
   by_cases h2:i≤j
   ·rw[if_pos h2,if_pos (by omega)]
    obtain⟨d,rfl⟩:∃d,j=i+1+d:=⟨j-(i+1),by omega⟩
    rw[show i+1+d-(i+1)=d by omega,show i+1+d-i=d+1 by omega];simp
   ·rw[if_neg h2,if_neg (by omega)]
theorem QiB (g:ResultVar→Sem Value)(tmps:Array Value)(hg:∀t,g (.tmp t)=pure (tmps.getD t undef)):∀ts:List Nat,(ts.map ResultVar.tmp).mapM g=pure (ts.map fun t=>tmps.getD t undef)
 |[]=>rfl
 |t::ts=>by simp only[List.map_cons,List.mapM_cons,QiB g tmps hg ts,hg,pure_bind]
theorem Qp4 (g:ResultVar→Sem Value)(tmps:Array Value)(hg:∀t,g (.tmp t)=pure (tmps.getD t undef))(ts:List Nat):(ts.map ResultVar.tmp).toArray.mapM g=pure (ts.map fun t=>tmps.getD t undef).toArray:=by
 rw[List.mapM_toArray,QiB g tmps hg];rfl
def Qsa (tmps:Array Value):List Nat→Value
 |[t]=>tmps.getD t undef
 |ts=>.tuple (ts.map fun t=>tmps.getD t undef).toArray
def Xz (st:St):List Nat→AV
 |[t]=>st.get t
 |ts=>.tup (ts.map st.get)
def AV.fzt:AV→Option AV
 | .tup xs=>(fzl xs).map .tup
 |x=>x.fz
def retA (ts:List Nat)(res:AV):Exit→St→Prop
 | .normal,st | .ret,st=>(Xz st ts).fzt=some res
 |_,_=>False
theorem W9 {P:Program}{fn:Func}(ts:List Nat)(h:fn.results=(ts.map ResultVar.tmp).toArray)(tmps:Array Value)(w:World):
  (results fn tmps).run P w=.ok (Qsa tmps ts) w:=by
 unfold results
 rw[h,Qp4 _ tmps (fun _=>rfl) ts]
 match ts with
 |[]=>rfl
 |[t]=>rfl
 |t::u::ts=>simp[Qsa]
def X7.at_ (N:Nat)(w:World)(S:Nat→Nat→Prop):X7:=⟨N,w,S,fun b=>w.heap.size≤b,fun _ h=>h,fun _=>False,fun _ h=>h.elim,fun _=>none⟩
theorem VR.tup_fz {c:Cx}{v:Value}{xs ys:List AV}(hv:VR c v (.tup xs))(h:fzl xs=some ys):FR c.w c.S v (.tup ys):=by
 obtain⟨h1,h2⟩:=QcD h
 have key:∃vs:List Value,v=.tuple vs.toArray∧vs.length=xs.length∧∀(i:Nat) (v:Value) (x:AV),vs[i]?=some v→xs[i]?=some x→VR c v x:=by
  cases hv with
  |fr _ _ h=>cases h with|tup vs _ hl h=>exact⟨vs,rfl,hl,fun i v x h1 h2=>.fr _ _ (h i v x h1 h2)⟩
  |tup vs _ hl h=>exact⟨vs,rfl,hl,h⟩
 obtain⟨vs,rfl,hl,hp⟩:=key
 refine .tup vs ys (by omega) fun i v y hi hj=>?_
 have hix:i<xs.length:=by have:=(List.getElem?_eq_some_iff.1 hj).1;omega
 exact(hp i v _ hi (List.getElem?_eq_getElem hix)).fz (h2 i _ y (List.getElem?_eq_getElem hix) hj)
theorem Qg {P:Program}{f:FuncId}{fn:Func}{code:Code}{args:List AV}{res:AV}(ts:List Nat)(hf:P.funcs[f]?=some fn)(hb:fn.body=some code)(hres:fn.results=(ts.map ResultVar.tmp).toArray)(N:Nat)(hN:fn.ntmps=N)(hle:args.length≤N)
  (h:∀E:X7,E.N=N→Y1 P E code (retA ts res) ⟨Qao 0 args,[],0⟩):FC P f args res:=by
 intro w S vs hS hv
 have hvl:vs.length=args.length:=hv.1
 refine calls_of_wp hf hb ?_
 have hr:Jk (X7.at_ N w S) ⟨w,S,fun _=>none,fun _=>False⟩ { tmps:=vs.toArray++Array.replicate (fn.ntmps-vs.toArray.size) undef,defers:=[] } ⟨Qao 0 args,[],0⟩:={
  defers:=rfl
  size:=by show(vs.toArray++Array.replicate (fn.ntmps-vs.toArray.size) undef).size=N;simp;omega
  tmps:=fun i=>by
   show VR _ ((vs.toArray++Array.replicate (fn.ntmps-vs.toArray.size) undef).getD i undef) ((Qb (Qao 0 args) i).getD .bot)
   rw[Wp]
   simp only[Nat.zero_le,if_true,Nat.sub_zero]
   rcases Nat.lt_or_ge i args.length with hlt|hge
   ·have hlt':i<vs.length:=by omega
    have e:(vs.toArray++Array.replicate (fn.ntmps-vs.toArray.size) undef).getD i undef=vs[i]:=by
     simp[Array.getElem?_append,hlt']
    rw[e,List.getElem?_eq_getElem hlt];exact .fr _ _ (hv.2 i _ _ (List.getElem?_eq_getElem hlt') (List.getElem?_eq_getElem hlt))
   rw[List.getElem?_eq_none hge];exact .fr _ _ (.bot _)
  live:=fun o ob h=>by cases h
  dead:=fun _ _=>rfl
  apart:=fun o o' v v' b h=>by cases h
  ids:=fun _ h=>h.elim,nxB:=Nat.zero_le _,kbs:=fun _ h=>h.elim,V0:=fun _ h=>h.elim
  Ssz:=hS
  os:=rfl,tape:=rfl,output:=rfl,drawn:=Nat.le_refl _,grown:=Nat.le_refl _
  frame:=fun _ _ _=>rfl
  S0:=fun _ _ h=>⟨h,rfl⟩
  Snew:=fun _ _ h=>.inl h }
 refine wp_mono (h (X7.at_ N w S) rfl _ _ hr) ?_;rintro e a' w' ⟨c,st,rfl,hr',hq⟩
 have fin:((Xz st ts).fzt=some res) →
   a'.defers=[]∧∃v,(results fn a'.tmps).run P c.w=.ok v c.w∧∃v' S',Ending.returned v=.returned v'∧Bel w c.w∧(∀b o,S b o→S' b o)∧(∀b o,S' b o→S b o∨(w.heap.size≤b∧b<c.w.heap.size))∧FR c.w S' v' res:=by
  intro hr2;refine⟨hr'.defers,_,W9 ts hres a'.tmps c.w,_,c.S,rfl,⟨⟨hr'.os,hr'.tape,hr'.output,hr'.grown,fun b hb=>hr'.frame b hb (Nat.not_le.2 hb)⟩,hr'.drawn⟩,fun b o h=>(hr'.S0 b o h).1,fun b o h=>?_,?_⟩
  ·rcases hr'.Snew b o h with h1|h1
   ·exact .inl h1
   exact .inr ⟨h1,hr'.Ssz b o h⟩
  have hvr:VR c (Qsa a'.tmps ts) (Xz st ts):=by
   have many:∀ts:List Nat,VR c (.tuple (ts.map fun t=>a'.tmps.getD t undef).toArray) (.tup (ts.map st.get)):=fun ts=>by
    refine .tup _ _ (by simp) fun i v x hi hj=>?_
    rw[List.getElem?_map] at hi hj
    cases hq:ts[i]? with
    |none=>rw[hq] at hi;cases hi
    |some t=>rw[hq] at hi hj;cases hi;cases hj;exact hr'.tmps t
   match ts with
   |[]=>exact many []
   |[t]=>exact hr'.tmps t
   |t::u::ts=>exact many (t::u::ts)
  generalize Xz st ts=r at hr2 hvr
  cases r with
  |tup xs=>
   simp only[AV.fzt] at hr2
   cases hz:fzl xs with
   |none=>rw[hz] at hr2;cases hr2
   |some ys=>rw[hz] at hr2;cases hr2;exact hvr.tup_fz hz
  |_=>exact hvr.fz hr2
 cases e with
 |normal=>exact fin hq
 |ret=>exact fin hq
 |_=>exact hq.elim
def St.cell1 (st:St):AV→Bool
 | .p v=>v.oneCell'
 | .sl _ _ | .el _ | .fn _ _ | .emp=>true
 | .ptr o _=>match Qb st.H o with|some (.var _ _)=>true|_=>false
 | .own o n=>match Qb st.H o with|some (.arr _ _ es)=>Nat.beq es.length n|_=>false
 |_=>false
def St.cells1 (st:St):AV→Option (List AV)
 | .agg cs=>bif cs.all st.cell1 then some cs else none
 |x=>bif st.cell1 x then some [x] else none
section
variable {E:X7}{c:Cx}{a:Act}{st:St}
theorem Y3 {w:World}{base:Nat}{t:TypeId}{k n:Nat}{v:Value}{xs:List Value}(h:w.ownsRow base t k v n xs):∃A cap,v=.slice A n cap:=by
 rcases h.2 with ⟨rfl,rfl⟩|⟨g,cap,cur,rfl,_⟩
 ·exact⟨_,_,rfl⟩
 ·exact⟨_,_,rfl⟩
theorem Jk.one (hr:Jk E c a st){v:Value}{x:AV}(hv:VR c v x)(h:st.cell1 x=true):v.oneCell'=true:=by
 cases x with
 |p u=>rw[hv.p_inv];exact h
 |sl es tk=>obtain⟨A,cc,rfl,_⟩:=hv.sl_inv.sl_val;rfl
 |emp=>cases hv with|fr _ _ h=>cases h;rfl
 |el cs=>cases hv with|fr _ _ h=>cases h;rfl
 |fn f cs=>cases hv with
  |fr _ _ h=>cases h;rfl
  |fn=>rfl
 |ptr o off=>
  simp only[St.cell1] at h
  cases ho:Qb st.H o with
  |none=>rw[ho] at h;cases h
  |some ob=>
   rw[ho] at h
   cases ob with
   |var t cs=>
    obtain⟨hk,v0,hv0,hor,_⟩:=hr.live o _ ho
    cases hor with
    |var b ccs _ _ hh hl hp hn=>
     cases hv with
     |fr _ _ h=>cases h
     |ptr _ _ _ _ hV=>rw[hV b hv0];rfl
   |_=>cases h
 |own o n=>
  simp only[St.cell1] at h
  cases ho:Qb st.H o with
  |none=>rw[ho] at h;cases h
  |some ob=>
   rw[ho] at h
   cases ob with
   |arr t k es=>
    have hn:=Nat.eq_of_beq_eq_true h
    obtain⟨hk,v0,hv0,hor,_⟩:=hr.live o _ ho
    cases hor with
    |arr _ _ _ _ xs hown _ _ _=>
     obtain⟨A,cap,rfl⟩:=Y3 hown
     cases hv with
     |fr _ _ h=>cases h
     |own _ _ _ _ hV=>rw[(hV _ _ _ hv0).2 hn.symm];rfl
   |_=>cases h
 |_=>cases h
theorem Qq4 {v:Value}(h:v.oneCell'=true):v.cells = #[v]:=by
 cases v<;>first|rfl|cases h
theorem Jk.cells (hr:Jk E c a st){v:Value}{x:AV}(hv:VR c v x){cs:List AV}(h:st.cells1 x=some cs):
  v.cells.size=cs.length∧(∀(i:Nat) (u:Value) (y:AV),v.cells[i]?=some u→cs[i]?=some y→VR c u y)∧∀u∈v.cells.toList,u.oneCell'=true:=by
 have one:∀ {v:Value} {x:AV},VR c v x→st.cell1 x=true→v.cells.size=[x].length∧(∀(i:Nat) (u:Value) (y:AV),v.cells[i]?=some u→[x][i]?=some y→VR c u y)∧∀u∈v.cells.toList,u.oneCell'=true:=by
  intro v x hv hx
  have h1:=hr.one hv hx
  rw[Qq4 h1];refine⟨rfl,fun i u y hi hj=>?_,fun u hu=>?_⟩
  ·cases i with
   |zero=>simp at hi hj;subst hi hj;exact hv
   |succ i=>simp at hj
  simp at hu;subst hu;exact h1
 have many:∀ {cs:List AV},cs.all st.cell1=true→VR c v (.agg cs)→v.cells.size=cs.length∧(∀(i:Nat) (u:Value) (y:AV),v.cells[i]?=some u→cs[i]?=some y→VR c u y)∧∀u∈v.cells.toList,u.oneCell'=true:=by
  intro cs hall hv
  have key:∃vs:List Value,v=.agg vs.toArray∧vs.length=cs.length∧∀(i:Nat) (v:Value) (x:AV),vs[i]?=some v→cs[i]?=some x→VR c v x:=by
   cases hv with
   |fr _ _ h=>cases h with|agg vs _ hl h=>exact⟨vs,rfl,hl,fun i v x h1 h2=>.fr _ _ (h i v x h1 h2)⟩
   |agg vs _ hl h=>exact⟨vs,rfl,hl,h⟩
  obtain⟨vs,rfl,hl,hp⟩:=key;refine⟨by simpa [Value.cells] using hl,fun i u y hi hj=>hp i u y (by simpa [Value.cells] using hi) hj,fun u hu=>?_⟩;obtain⟨i,hi⟩:=List.mem_iff_getElem?.1 (show u∈vs by simpa [Value.cells] using hu)
  have hix:i<cs.length:=by have:=(List.getElem?_eq_some_iff.1 hi).1;omega
  exact hr.one (hp i u _ hi (List.getElem?_eq_getElem hix)) (List.all_eq_true.1 hall _ (List.getElem_mem hix))
 cases x with
 |agg cs'=>
  simp only[St.cells1] at h
  cases hb:cs'.all st.cell1 with
  |false=>rw[hb] at h;cases h
  |true=>rw[hb] at h;cases h;exact many hb hv
 |_=>
  simp only[St.cells1] at h
  revert h
  generalize hb:st.cell1 _=bb
  cases bb
  ·intro h;cases h
  intro h;cases h;exact one hv hb
end
theorem WB (w:World)(cs:Array Value)(t:TypeId):(w.alloc (.cells cs t)).heap[w.heap.size]?=some (.cells cs t (0,0)):=by
 exact heap_alloc_new w _
theorem KA (w:World)(o:Obj):Bel w (w.alloc o):=⟨(Below.refl _ _).alloc (Nat.le_refl _) o,Nat.le_refl _⟩
section
variable {P:Program}{E:X7}{Q:Exit→St→Prop}{st:St}{ops:Array Oper}{o:Oper}{rest:List Oper}
theorem Qbr (x:AV)(st':St)(hw:Qo ops st o=some true)(hd:∀d,o.dst=some d→d<E.N)
  (hrun:∀c a,Jk E c a st→∃v c',(execOp a.eval o).run P c.w=.ok (.value v) c'.w∧Jk E c' a st'∧VR c' v x)
  (h:Q3 P E ops rest Q (st'.put o.dst x)):Q3 P E ops (o::rest) Q st:=fun c a hr=>by
 refine wpList_step fun K hK=>?_
 rw[Xx hw hr,if_pos rfl];obtain⟨v,c',hrun,hr',hv⟩:=hrun c a hr
 unfold Oper.wp
 rw[hrun,Oper.upon_value];exact hK _ _ (h c' _ (hr'.put hd hv))
theorem Qdf (st':St)(hw:Qo ops st o=some true)(hd:∀d,o.dst=some d→d<E.N)
  (hrun:∀c a,Jk E c a st→∃c':Cx,(execOp a.eval o).run P c.w=.ok .skip c'.w∧Jk E c' a st')
  (h:Q3 P E ops rest Q (st'.put o.dst (.p undef))):Q3 P E ops (o::rest) Q st:=fun c a hr=>by
 refine wpList_step fun K hK=>?_
 rw[Xx hw hr,if_pos rfl];obtain⟨c',hrun,hr'⟩:=hrun c a hr
 unfold Oper.wp
 rw[hrun,Oper.upon_skip];exact hK _ _ (h c' _ (hr'.put hd (.fr _ _ (.p _))))
theorem Qtu (hB:st.nx<Qf)(t:TypeId)(x:Operand)(ho:o.op=.box t x)(hw:Qo ops st o=some true)(hd:∀d,o.dst=some d→d<E.N)(cs:List AV)(hc:st.cells1 (st.ev x)=some cs)
  (h:Q3 P E ops rest Q (St.put { st.set st.nx (.var t cs) with nx:=st.nx+1 } o.dst (.ptr st.nx 0))):Q3 P E ops (o::rest) Q st:=by
 refine Qbr (.ptr st.nx 0) _ hw hd (fun c a hr=>?_) h;obtain⟨h1,h2,-⟩:=hr.cells (hr.ev x) hc
 obtain⟨c',e1,-,hle,hK,hV,hr'⟩:=hr.new hB (KA c.w (.cells (a.eval x).cells t)) (.pointer (some ⟨c.w.heap.size,0,none⟩)) (.var t cs)
  (fun c' e1 e2 hle=>.var c.w.heap.size (a.eval x).cells t cs (by rw[e1];exact WB _ _ _) h1 (fun i u y hi hj=>(h2 i u y hi hj).mono hle) (fun off hs=>by
   rw[e2] at hs
   exact Nat.lt_irrefl _ (hr.Ssz _ _ hs))) (fun b hb=>by simp[Xd] at hb;omega)
 refine⟨.pointer (some ⟨c.w.heap.size,0,none⟩),c',?_,hr',.ptr _ _ _ hK fun b hb=>?_⟩
 ·rw[e1]
  simp[execOp,ho,Instr.box,newVar,newRow]
 ·rw[hV] at hb
  simpa using hb
class Xa (P:Program) (t:TypeId) (zs:outParam (List Value)):Prop where
 h:(P.info? t).bind (·.zero.map (·.cells.toList))=some zs
theorem Qnf (hB:st.nx<Qf)(t:TypeId)(ho:o.op=.alloc t){zs:List Value}[hz:Xa P t zs](hw:Qo ops st o=some true)(hd:∀d,o.dst=some d→d<E.N)
  (h:Q3 P E ops rest Q (St.put { st.set st.nx (.var t (zs.map .p)) with nx:=st.nx+1 } o.dst (.ptr st.nx 0))):Q3 P E ops (o::rest) Q st:=by
 refine Qbr (.ptr st.nx 0) _ hw hd (fun c a hr=>?_) h
 have hzs:=hz.h
 cases hi:P.info? t with
 |none=>simp[hi] at hzs
 |some i=>
  cases hz0:i.zero with
  |none=>simp[hi,hz0] at hzs
  |some z=>
   have hzc:z.cells.toList=zs:=by simpa [hi,hz0] using hzs
   obtain⟨c',e1,-,hle,hK,hV,hr'⟩:=hr.new hB (KA c.w (.cells z.cells t)) (.pointer (some ⟨c.w.heap.size,0,none⟩)) (.var t (zs.map .p))
    (fun c' e1 e2 hle=>.var c.w.heap.size z.cells t _ (by rw[e1];exact WB _ _ _) (by rw[←hzc];simp) (fun j u y hi hj=>by
     rw[←hzc,List.getElem?_map] at hj
     have hi':z.cells.toList[j]?=some u:=by simpa using hi
     rw[hi'] at hj
     cases hj
     exact .fr _ _ (.p u)) (fun off hs=>by
     rw[e2] at hs
     exact Nat.lt_irrefl _ (hr.Ssz _ _ hs))) (fun b hb=>by simp[Xd] at hb;omega)
   refine⟨.pointer (some ⟨c.w.heap.size,0,none⟩),c',?_,hr',.ptr _ _ _ hK fun b hb=>?_⟩
   ·rw[e1]
    simp[execOp,ho,Instr.alloc,zeroValue,typeInfo,hi,hz0,newVar,newRow]
   ·rw[hV] at hb
    simpa using hb
theorem Qan (b:Nat)(t:TypeId)(fz:Nat×Nat):∀(vs:List Value) (o:Nat) (w:World) (ccs:Array Value),w.heap[b]?=some (.cells ccs t fz) →
  ∃ccs',(w.setCells b o vs).heap[b]?=some (.cells ccs' t fz)∧ccs'.size=ccs.size∧∀i,ccs'[i]?=if o≤i∧i<o+vs.length∧i<ccs.size then vs[i-o]? else ccs[i]?
 |[],o,w,ccs,h=>⟨ccs,h,rfl,fun i=>by simp;omega⟩
 |v::vs,o,w,ccs,h=>by
  have h1:(w.setCell ⟨b,o,none⟩ v).heap[b]?=some (.cells (ccs.setIfInBounds o v) t fz):=by simp[World.setCell,Array.getElem?_modify,h]
  obtain⟨ccs',h2,h3,h4⟩:=Qan b t fz vs (o+1) _ _ h1;refine⟨ccs',h2,by simpa using h3,fun i=>?_⟩;rw[h4 i]
  simp only[Array.size_setIfInBounds,List.length_cons]
  by_cases h5:o+1≤i∧i<o+1+vs.length∧i<ccs.size
  ·rw[if_pos h5,if_pos (by omega)]
   obtain⟨d,rfl⟩:∃d,i=o+1+d:=⟨i-(o+1),by omega⟩
   rw[show o+1+d-(o+1)=d by omega,show o+1+d-o=d+1 by omega];simp
  ·rw[if_neg h5]
   by_cases h6:i=o
   ·subst h6
    by_cases h7:i<ccs.size
    ·rw[if_pos (by omega)];simp[h7]
    rw[if_neg (by omega),Array.getElem?_eq_none (by simp;omega),Array.getElem?_eq_none (by omega)]
   ·rw[if_neg (by omega),Array.getElem?_setIfInBounds_ne (Ne.symm h6)]
theorem J7 (b:Nat):∀(vs:List Value) (o:Nat) (w:World) (k:Nat),k≠b→(w.setCells b o vs).heap[k]?=w.heap[k]?
 |[],_,_,_,_=>rfl
 |v::vs,o,w,k,h=>(J7 b vs (o+1) _ k h).trans (Below.heap_setCell w ⟨b,o,none⟩ v k h)
theorem WA (b:Nat):∀(vs:List Value) (o:Nat) (w:World),(w.setCells b o vs).os=w.os∧(w.setCells b o vs).tape=w.tape∧(w.setCells b o vs).output=w.output∧(w.setCells b o vs).heap.size=w.heap.size∧(w.setCells b o vs).drawn=w.drawn
 |[],_,_=>⟨rfl,rfl,rfl,rfl,rfl⟩
 |v::vs,o,w=>by
  obtain⟨h1,h2,h3,h4,h5⟩:=WA b vs (o+1) (w.setCell ⟨b,o,none⟩ v);exact⟨h1,h2,h3,h4.trans (by simp[World.setCell]),h5⟩
def Yq (cs:List AV)(off:Nat)(ys:List AV):List AV:=cs.take off++ys++cs.drop (off+ys.length)
theorem Qdr (cs:List AV)(off:Nat)(ys:List AV)(h:off+ys.length≤cs.length)(i:Nat):(Yq cs off ys)[i]?=if off≤i∧i<off+ys.length then ys[i-off]? else cs[i]?:=by
 unfold Yq
 have hl:(cs.take off).length=off:=by simp;omega
 by_cases h1:i<off
 ·rw[if_neg (by omega),List.append_assoc,List.getElem?_append_left (by omega),List.getElem?_take,if_pos h1]
 ·by_cases h2:i<off+ys.length
  ·rw[if_pos (by omega),List.append_assoc,List.getElem?_append_right (by omega),hl,List.getElem?_append_left (by omega)]
  ·rw[if_neg (by omega),List.getElem?_append_right (by simp;omega),List.getElem?_drop]
   congr 1
   simp;omega
theorem Qoh (t:TypeId)(x y:Operand)(ho:o.op=.store t x y){n:Nat}{row:Bool}[hT:XV P t n row](hw:Qo ops st o=some true)(hd:∀d,o.dst=some d→d<E.N)
  (q off:Nat) (hx:st.ev x=.ptr q off) (t':TypeId) (cs:List AV) (hq:Qb st.H q=some (.var t' cs)) (ys:List AV) (hy:st.cells1 (st.ev y)=some ys) (hn:ys.length=n) (hle:off+ys.length≤cs.length)
  (h:Q3 P E ops rest Q (St.put (st.set q (.var t' (Yq cs off ys))) o.dst (.p undef))):Q3 P E ops (o::rest) Q st:=by
 refine Qdf _ hw hd (fun c a hr=>?_) h;obtain⟨h1,h2,h3⟩:=hr.cells (hr.ev y) hy
 have hvx:=hr.ev x
 rw[hx] at hvx;obtain⟨hk,v0,hv0,hor,_⟩:=hr.live q _ hq
 cases hor with
 |var b ccs _ _ hh hl hp hS=>
  have hvp:a.eval x=.pointer (some ⟨b,off,none⟩):=by
   generalize a.eval x=vx at hvx
   cases hvx with
   |fr _ _ h=>cases h
   |ptr _ _ _ _ hV=>exact hV b hv0
  have hb:b<c.w.heap.size:=(Array.getElem?_eq_some_iff.1 hh).1
  obtain⟨ccs',h4,h5,h6⟩:=Qan b t' (0,0) (a.eval y).cells.toList off c.w ccs hh;obtain⟨r1,r2,r3,r4,r5⟩:=WA b (a.eval y).cells.toList off c.w
  have hyl:(a.eval y).cells.toList.length=ys.length:=by simpa using h1
  obtain⟨c',e1,-,hle',-,-,hr'⟩:=hr.upd hq (w':=c.w.setCells b off (a.eval y).cells.toList) (S':=c.S) hv0 (.var t' (Yq cs off ys)) (v':=.pointer (some ⟨b,0,none⟩)) r1 r2 r3 ⟨by omega,by omega⟩
   (fun k hk hne=>J7 b _ _ _ k (fun e=>hne (by rw[e];rfl)))
   (fun b' off' hs=>⟨hs,by
    have hne:b'≠b:=fun e=>hS off' (e▸hs)
    have:=J7 b (a.eval y).cells.toList off c.w b' hne
    simp only[World.cell?,this]⟩)
   (fun b' off' hs=>.inl hs) (.inl rfl) (.refl _)
   (fun c' e1 e2 hle'=>.var b ccs' t' _ (by rw[e1];exact h4) (by rw[h5,hl];unfold Yq;simp;omega) (fun i u z hi hj=>by
    rw[h6 i] at hi;rw[Qdr cs off ys hle i] at hj
    by_cases hin:off≤i∧i<off+ys.length
    ·rw[if_pos hin] at hj
     rw[if_pos (by omega)] at hi;exact(h2 _ u z (by simpa using hi) hj).mono hle'
    rw[if_neg hin] at hj;rw[if_neg (by omega)] at hi
    exact(hp i u z hi hj).mono hle') (fun off' hs=>hS off' (by rw[e2] at hs;exact hs)))
  refine⟨c',?_,hr'⟩;obtain⟨i,hi,hsz⟩:=JD hT.size
  have hrun:=run_storeCells_cells (P:=P) b off (a.eval y).cells.toList 0 c.w
   (fun j hj=>by
    rw[KT hh];have:off+j<ccs.size:=by omega
    simp[this])
   (fun j hj=>by simp[World.frozen?,hh]) (fun v hv=>h3 v hv)
  rw[Nat.add_zero] at hrun;rw[e1];have hsz2:(a.eval y).cells.size=i.size:=by omega
  simp[execOp,ho,hvp,Instr.storeAt,Instr.sureAddr,storeVar,sizeOf,typeInfo,hi,hsz2,hrun]
def okId1 (L:Nat):AV→Bool
 | .ptr o _ | .own o _ | .eptr o _ _ | .sl _ (some o)=>Nat.blt o L||Nat.ble Qf o
 | .agg _ | .tup _ | .fn _ _=>false
 |_=>true
def okId (L:Nat):AV→Bool
 | .agg cs | .tup cs | .fn _ cs=>cs.all (okId1 L)
 |x=>okId1 L x
def JB (L:Nat):Qj→Bool
 | .var _ cs=>cs.all (okId L)
 | .tok _ _ _=>true
 | .arr _ _ es=>es.flatten.all (okId L)
theorem VR.okId1 {c c':Cx}{L:Nat}(hw:c'.w=c.w)(hS:c'.S=c.S)(hK:∀o,c.K o→o<L∨Qf≤o→c'.K o)(hV:∀o v,c'.V o=some v→c.V o=some v){v:Value}{x:AV}(h:VR c v x)(hx:okId1 L x=true):VR c' v x:=by
 have lt:∀ {o},(Nat.blt o L||Nat.ble Qf o)=true→o<L∨Qf≤o:=fun h=>by
  rcases Bool.or_eq_true _ _▸h with h|h
  ·exact .inl (Nat.le_of_ble_eq_true h)
  exact .inr (Nat.le_of_ble_eq_true h)
 cases h with
 |fr _ _ h=>exact .fr _ _ (by rw[hw,hS];exact h)
 |tok _ es o h hk hv=>exact .tok _ _ _ (by rw[hw,hS];exact h) (hK o hk (lt hx)) fun A n cap e=>hv A n cap (hV _ _ e)
 |own _ o n hk hv=>exact .own _ _ _ (hK o hk (lt hx)) fun A n cap e=>hv A n cap (hV _ _ e)
 |ptr _ o off hk hv=>exact .ptr _ _ _ (hK o hk (lt hx)) fun b e=>hv b (hV _ _ e)
 |eptr _ o n off hk hv=>exact .eptr _ _ _ _ (hK o hk (lt hx)) fun A n cap e=>hv A n cap (hV _ _ e)
 |agg=>cases hx
 |tup=>cases hx
 |fn=>cases hx
theorem VR.okId {c c':Cx}{L:Nat}(hw:c'.w=c.w)(hS:c'.S=c.S)(hK:∀o,c.K o→o<L∨Qf≤o→c'.K o)(hV:∀o v,c'.V o=some v→c.V o=some v){v:Value}{x:AV}(h:VR c v x)(hx:okId L x=true):VR c' v x:=by
 have many:∀ {vs:List Value} {cs:List AV},vs.length=cs.length→cs.all (Go.Proofs.YtnkkokmmeplbgaaGreat.okId1 L)=true→(∀(i:Nat) (v:Value) (x:AV),vs[i]?=some v→cs[i]?=some x→VR c v x)→∀(i:Nat) (v:Value) (x:AV),vs[i]?=some v→cs[i]?=some x→VR c' v x:=
  fun hl hc h i v x hi hj=>(h i v x hi hj).okId1 hw hS hK hV (List.all_eq_true.1 hc _ (List.mem_of_getElem? hj))
 cases h with
 |fr _ _ h=>exact .fr _ _ (by rw[hw,hS];exact h)
 |agg vs cs hl h=>exact .agg vs cs hl (many hl hx h)
 |tup vs cs hl h=>exact .tup vs cs hl (many hl hx h)
 |fn f vs cs hl h=>exact .fn f vs cs hl (many hl hx h)
 |tok _ es o h hk hv=>exact(VR.tok _ es o h hk hv).okId1 hw hS hK hV hx
 |own _ o n hk hv=>exact(VR.own _ o n hk hv).okId1 hw hS hK hV hx
 |ptr _ o off hk hv=>exact(VR.ptr _ o off hk hv).okId1 hw hS hK hV hx
 |eptr _ o n off hk hv=>exact(VR.eptr _ o n off hk hv).okId1 hw hS hK hV hx
theorem KN {α:Type}:∀ {l:List (Nat×α)} {i:Nat} {x:α},Qb l i=some x→(i,x)∈l
 |[],_,_,h=>by cases h
 |(j,y)::l,i,x,h=>by
  rw[Qn] at h
  split at h
  ·rename_i e;cases h;subst e;simp
  ·exact List.mem_cons_of_mem _ (KN h)
theorem QhK {st':St}(hL:st'.nx≤Qf)(ht:∀p∈st'.t,st.get p.1=p.2∧okId st'.nx p.2=true)(hH:∀p∈st'.H,Qb st.H p.1=some p.2∧(Nat.blt p.1 st'.nx||Nat.ble Qf p.1)=true∧JB st'.nx p.2=true):Kj E st st':=by
 intro c a hr
 have lt:∀ {o L},(Nat.blt o L||Nat.ble Qf o)=true→o<L∨Qf≤o:=fun h=>by
  rcases Bool.or_eq_true _ _▸h with h|h
  ·exact .inl (Nat.le_of_ble_eq_true h)
  exact .inr (Nat.le_of_ble_eq_true h)
 obtain⟨V',hV'⟩:∃V':Nat→Option Value,V'=fun o=>if (Qb st'.H o).isSome then c.V o else none:=⟨_,rfl⟩
 have hVs:∀o v,V' o=some v→c.V o=some v∧(Qb st'.H o).isSome=true:=fun o v h=>by
  rw[hV'] at h;dsimp only at h
  split at h
  ·exact⟨h,by assumption⟩
  cases h
 have conv:∀ {v:Value} {x:AV},VR c v x→okId st'.nx x=true→VR ⟨c.w,c.S,V',fun o=>c.K o∧(o<st'.nx∨Qf≤o)⟩ v x:=fun h hx=>
  VR.okId (c:=c) (c':=⟨c.w,c.S,V',fun o=>c.K o∧(o<st'.nx∨Qf≤o)⟩) rfl rfl (fun o hk hlt=>⟨hk,hlt⟩) (fun o v h=>(hVs o v h).1) h hx
 refine⟨⟨c.w,c.S,V',fun o=>c.K o∧(o<st'.nx∨Qf≤o)⟩,rfl,?_⟩
 exact {
  defers:=hr.defers,size:=hr.size
  tmps:=fun i=>by
   cases hl:Qb st'.t i with
   |none=>rw[show st'.get i=.bot by simp[St.get,hl]];exact .fr _ _ (.bot _)
   |some x=>
    obtain⟨h1,h2⟩:=ht _ (KN hl);rw[show st'.get i=x by simp[St.get,hl]]
    have:=hr.tmps i
    rw[h1] at this;exact conv this h2
  live:=fun o ob ho=>by
   obtain⟨h1,h2,h3⟩:=hH _ (KN ho);obtain⟨hk,v,hv,hor,hwr⟩:=hr.live o ob h1;refine⟨⟨hk,lt h2⟩,v,by rw[hV'];simp[ho,hv],?_,hwr⟩
   cases hor with
   |var b ccs t cs hh hl hp hS=>
    exact .var b ccs t cs hh hl (fun i u x h4 h5=>conv (hp i u x h4 h5) (List.all_eq_true.1 h3 _ (List.mem_of_getElem? h5))) hS
   |tok _ t k n xs hown hS=>exact .tok v t k n xs hown hS
   |arr _ t k es xs hown hks hp hS=>exact .arr v t k es xs hown hks (fun i u x h4 h5=>conv (hp i u x h4 h5) (List.all_eq_true.1 h3 _ (List.mem_of_getElem? h5))) hS
  dead:=fun o ho=>by show V' o=none;rw[hV'];simp[ho]
  drawn:=hr.drawn
  apart:=fun o o' v v' b h1 h2 h3 h4=>hr.apart o o' v v' b (hVs o v h1).1 (hVs o' v' h2).1 h3 h4
  ids:=fun o h=>by
   rcases h.2 with h1|h1
   ·exact .inl h1
   rcases hr.ids o h.1 with h2|h2
   ·have:=hr.nxB;omega
   exact .inr h2
  nxB:=hL
  kbs:=fun o h=>⟨hr.kbs o h,.inr (E.kb o h)⟩
  V0:=fun o h=>by
   refine(hr.V0 o h).trans ?_
   show Qa9 (c.V o) (V' o)
   rw[hV'];dsimp only
   split
   ·exact .refl _
   exact .inr (.inl rfl)
  Ssz:=hr.Ssz,os:=hr.os,tape:=hr.tape,output:=hr.output,grown:=hr.grown,frame:=hr.frame,S0:=hr.S0,Snew:=hr.Snew }
end
def X4 (st:St):Operand→Option AV
 | .tmp t=>Qb st.t t
 | .const v=>match v with
  | .agg cs=>some (.agg (cs.toList.map .p))
  |v=>some (.p v)
 | .func f=>some (.fn f [])
 | .global _=>none
theorem QZ {st:St}{x:Operand}{r:AV}(h:X4 st x=some r):st.ev x=r:=by
 cases x with
 |tmp t=>simp only[X4] at h;simp[St.ev,St.get,h]
 |const v=>
  simp only[X4] at h
  split at h<;>cases h
  ·rfl
  rename_i hne;cases v<;>first|rfl|exact absurd rfl (hne _)
 |func f=>cases h;rfl
 |global g=>cases h
def evl (st:St):List Operand→Option (List AV)
 |[]=>some []
 |x::xs=>match X4 st x,evl st xs with
  |some y,some ys=>some (y::ys)
  |_,_=>none
theorem Qdu {st:St}:∀ {xs:List Operand} {ys:List AV},evl st xs=some ys→xs.map st.ev=ys
 |[],_,h=>by cases h;rfl
 |x::xs,ys,h=>by
  unfold evl at h
  split at h
  ·rename_i y ys' h1 h2;cases h;simp[QZ h1,Qdu h2]
  ·cases h
theorem dlt {E:X7}{N:Nat}{o:Oper}{d:Nat}(hN:E.N=N)(ho:o.dst=some d)(h:Nat.blt d N=true):∀x,o.dst=some x→x<E.N:=fun x hx=>by
 rw[ho] at hx;cases hx;rw[hN];exact Nat.le_of_ble_eq_true h
theorem Qxf {E:X7}{o:Oper}(ho:o.dst=none):∀x,o.dst=some x→x<E.N:=fun x hx=>by rw[ho] at hx;cases hx
section
variable {P:Program}{E:X7}{Q:Exit→St→Prop}{ops:Array Oper}{o:Oper}{rest:List Oper}{t:List (Nat×AV)}{H:List (Nat×Qj)}{nx N d:Nat}{w:Bool}
theorem QcC {x:AV}(hN:E.N=N)(hy:PY P E o ⟨t,H,nx⟩ x)(hg:Qo ops ⟨t,H,nx⟩ o=some w)(hw:w=true)(hd:o.dst=some d)(hdN:Nat.blt d N=true)
  (h:Q3 P E ops rest Q ⟨(d,x)::t,H,nx⟩):Q3 P E ops (o::rest) Q ⟨t,H,nx⟩:=by
 subst hw
 refine Qua x hg (dlt hN hd hdN) hy ?_
 rw[hd];exact h
theorem QwA (hN:E.N=N)(hg:Qo ops ⟨t,H,nx⟩ o=some w)(hw:w=false)(hd:o.dst=some d)(hdN:Nat.blt d N=true)
  (h:Q3 P E ops rest Q ⟨(d,.p undef)::t,H,nx⟩):Q3 P E ops (o::rest) Q ⟨t,H,nx⟩:=by
 subst hw
 refine Qqp hg (dlt hN hd hdN) ?_
 rw[hd];exact h
theorem Qwu (i:Nat){b:Bool}(_:Qb t i=some (.p (.bool b)))(h1:b=true→Q3 P E ops rest Q ⟨t,H,nx⟩)(h2:b=false→Q3 P E ops rest Q ⟨t,H,nx⟩):Q3 P E ops rest Q ⟨t,H,nx⟩:=by
 cases b
 ·exact h2 rfl
 exact h1 rfl
theorem QxS (hN:E.N=N)(hB:Nat.blt nx Qf=true){tt:TypeId}{x:Operand}{ax:AV}{cs:List AV}(ho:o.op=.box tt x)(hx:X4 ⟨t,H,nx⟩ x=some ax)(hc:St.cells1 ⟨t,H,nx⟩ ax=some cs)(hg:Qo ops ⟨t,H,nx⟩ o=some w)(hw:w=true)(hd:o.dst=some d)(hdN:Nat.blt d N=true)
  (h:Q3 P E ops rest Q ⟨(d,.ptr nx 0)::t,(nx,.var tt cs)::H,nx+1⟩):Q3 P E ops (o::rest) Q ⟨t,H,nx⟩:=by
 subst hw
 refine Qtu (Nat.le_of_ble_eq_true hB) tt x ho hg (dlt hN hd hdN) cs (by rw[QZ hx];exact hc) ?_
 rw[hd];exact h
theorem Qva (hN:E.N=N)(hB:Nat.blt nx Qf=true){tt:TypeId}(ho:o.op=.alloc tt){zs:List Value}[hz:Xa P tt zs](hg:Qo ops ⟨t,H,nx⟩ o=some w)(hw:w=true)(hd:o.dst=some d)(hdN:Nat.blt d N=true)
  (h:Q3 P E ops rest Q ⟨(d,.ptr nx 0)::t,(nx,.var tt (zs.map .p))::H,nx+1⟩):Q3 P E ops (o::rest) Q ⟨t,H,nx⟩:=by
 subst hw
 refine Qnf (Nat.le_of_ble_eq_true hB) tt ho hg (dlt hN hd hdN) ?_
 rw[hd];exact h
theorem WE {tt:TypeId}{x y:Operand}(ho:o.op=.store tt x y){n:Nat}{row:Bool}[hT:XV P tt n row]{q off:Nat}(hx:X4 ⟨t,H,nx⟩ x=some (.ptr q off)){t':TypeId}{cs:List AV}(hq:Qb H q=some (.var t' cs)){ay:AV}{ys:List AV}
  (hy:X4 ⟨t,H,nx⟩ y=some ay) (hc:St.cells1 ⟨t,H,nx⟩ ay=some ys) (hn:ys.length=n) (hle:off+ys.length≤cs.length) (hg:Qo ops ⟨t,H,nx⟩ o=some w) (hw:w=true) (hd:o.dst=none)
  {cs':List AV} (hs:Yq cs off ys=cs') (h:Q3 P E ops rest Q ⟨t,(q,.var t' cs')::H,nx⟩):Q3 P E ops (o::rest) Q ⟨t,H,nx⟩:=by
 subst hw
 refine Qoh tt x y ho hg (Qxf hd) q off (QZ hx) t' cs hq ys (by rw[QZ hy];exact hc) hn hle ?_
 rw[hd,hs];exact h
variable {st:St}
theorem Qgp {x:Operand}{r:AV}(ho:o.op=.move x)(hx:X4 st x=some r):PY P E o st r:=QpE x (.inl ho) r (QZ hx)
theorem JO {x:Operand}{r:AV}(ho:o.op=.assign x)(hx:X4 st x=some r):PY P E o st r:=QpE x (.inr ho) r (QZ hx)
theorem XK {q x y:Operand}{b:Bool}{r:AV}(ho:o.op=.pick q x y)(hq:X4 st q=some (.p (.bool b)))(hb:b=true)(hx:X4 st x=some r):PY P E o st r:=
 QoT q x y ho b (QZ hq) r (by rw[hb];exact QZ hx)
theorem XG {q x y:Operand}{b:Bool}{r:AV}(ho:o.op=.pick q x y)(hq:X4 st q=some (.p (.bool b)))(hb:b=false)(hx:X4 st y=some r):PY P E o st r:=
 QoT q x y ho b (QZ hq) r (by rw[hb];exact QZ hx)
theorem Xc {tt:TypeId}{x:Operand}(ho:o.op=.load tt x){n:Nat}{row:Bool}[hT:XV P tt n row]{ax:AV}(hx:X4 st x=some ax){cs:List AV}(hc:st.at_ ax=some cs){r:AV}(hl:W7 row n cs=some r)(hn:Nat.blt 0 n=true):PY P E o st r:=
 Qvy tt x ho (Nat.le_of_ble_eq_true hn) ax (QZ hx) cs hc r hl
theorem Xj {s f:Nat}{x:Operand}(ho:o.op=.fieldAddr s x f){off n:Nat}{row:Bool}[hT:Q4 P s f off n row]{ax:AV}(hx:X4 st x=some ax){c:AV}{cs:List AV}(hc:st.at_ ax=some (c::cs)){r:AV}(hm:moved off ax=some r):PY P E o st r:=
 Qkt s f x ho ax (QZ hx) _ hc (by simp) r hm
theorem QrO {x:Operand}{tt:TypeId}(ho:o.op=.call { callee:=.builtin .len,args := #[x],argTypes := #[tt] }){e:TypeId}{n:Nat}[hT:JJ P tt e n]{es:List (List AV)}{tk:Option Nat}(hx:X4 st x=some (.sl es tk)):PY P E o st (.p (.int .i64 (es.length:Nat))):=
 Qwg x tt ho es tk (QZ hx)
theorem QkN {x:Operand}{tt:TypeId}(ho:o.op=.call { callee:=.builtin .len,args := #[x],argTypes := #[tt] }){e:TypeId}{n:Nat}[hT:JJ P tt e n](hx:X4 st x=some (.p (.slice none 0 0))):PY P E o st (.p (.int .i64 0)):=
 QsH x tt ho (QZ hx)
theorem Qgl {x:Operand}{tt:TypeId}(ho:o.op=.call { callee:=.builtin .len,args := #[x],argTypes := #[tt] })[hT:Qnr P tt]{s:List UInt8}(hx:X4 st x=some (.p (.string ⟨s.toArray⟩))):PY P E o st (.p (.int .i64 (s.length:Nat))):=by
 have:=Qnu (E:=E) x tt ho (P:=P) ⟨s.toArray⟩ (QZ hx)
 exact this
theorem Qh {tt:TypeId}{x ix:Operand}(ho:o.op=.indexAddr tt x ix){e:TypeId}{n:Nat}[hT:JJ P tt e n]{es:List (List AV)}{tk:Option Nat}(hx:X4 st x=some (.sl es tk)){k:IntKind}{i:Int}(hi:X4 st ix=some (.p (.int k i)))
  (j:Nat) (hij:i=(j:Int)) (cs:List AV) (hj:es[j]?=some cs) (hn:cs.length=n):PY P E o st (.el cs):=
 Qu7 tt x ix ho es tk (QZ hx) k i (QZ hi) j hij cs hj hn
theorem Qml {tt:TypeId}{x ix:Operand}(ho:o.op=.indexAddr tt x ix){len:Nat}{e:TypeId}{n:Nat}[hT:Qta P tt len e n]{ax:AV}(hx:X4 st x=some ax){k:IntKind}{i:Int}(hi:X4 st ix=some (.p (.int k i)))
  (j:Nat) (hij:i=(j:Int)) (hj:j<len) {c:AV} {cs:List AV} (hc:st.at_ ax=some (c::cs)) {r:AV} (hm:moved (j*n) ax=some r):PY P E o st r:=
 Qwa tt x ix ho ax (QZ hx) k i (QZ hi) j hij hj _ hc (by simp) r hm
theorem KG {tt:TypeId}{x ix:Operand}(ho:o.op=.index tt x ix)[hT:Qnr P tt]{s:List UInt8}(hx:X4 st x=some (.p (.string ⟨s.toArray⟩))){k:IntKind}{i:Int}(hi:X4 st ix=some (.p (.int k i)))
  (j:Nat) (hij:i=(j:Int)) (u:UInt8) (hj:s[j]?=some u):PY P E o st (.p (.int .u8 u.toNat)):=
 Qvg tt x ix ho ⟨s.toArray⟩ (QZ hx) k i (QZ hi) j hij u (by simpa using hj)
theorem QjO {op:BinOp}{tt ty:TypeId}{x y:Operand}(ho:o.op=.binOp op tt x y ty){u u' v:Value}(hx:X4 st x=some (.p u))(hy:X4 st y=some (.p u'))[hb:QaG P tt op u u' v]:PY P E o st (.p v):=Qnh op tt ty x y ho (QZ hx) (QZ hy)
theorem Qx8 {tt ty:TypeId}{x y:Operand}(ho:o.op=.binOp .quo tt x y ty){k:IntKind}{a b:Int}(hx:X4 st x=some (.p (.int k a)))(hy:X4 st y=some (.p (.int k b)))(hb:b≠0):PY P E o st (.p (.int k (k.wrap (a.tdiv b)))):=Qwb tt ty x y ho (QZ hx) (QZ hy) hb
theorem Qom {tt ty:TypeId}{x y:Operand}(ho:o.op=.binOp .rem tt x y ty){k:IntKind}{a b:Int}(hx:X4 st x=some (.p (.int k a)))(hy:X4 st y=some (.p (.int k b)))(hb:b≠0):PY P E o st (.p (.int k (a.tmod b))):=Qxd tt ty x y ho (QZ hx) (QZ hy) hb
theorem QvK {tt:TypeId}{x:Operand}(ho:o.op=.unOp .not tt x){b:Bool}(hx:X4 st x=some (.p (.bool b))):PY P E o st (.p (.bool (!b))):=QwU tt x ho (QZ hx)
theorem Qwi {src dst:TypeId}{x:Operand}(ho:o.op=.convert src dst x){k0 k1 k:IntKind}[h0:QdE P src k0][h1:QdE P dst k1]{n:Int}(hx:X4 st x=some (.p (.int k n))):PY P E o st (.p (.int k1 (k1.wrap n))):=QvB src dst x ho (QZ hx)
theorem QjU {x:Operand}{i:Nat}(ho:o.op=.extract x i){xs:List AV}(hx:X4 st x=some (.tup xs)){r:AV}(hi:xs[i]?=some r):PY P E o st r:=Qn0 x i ho xs (QZ hx) r hi
theorem Qu6 {s f:Nat}{x:Operand}(ho:o.op=.field s x f){off n:Nat}{row:Bool}[hT:Q4 P s f off n row]{cs:List AV}(hx:X4 st x=some (.agg cs)){r:AV}(hp:QoD row off n cs=some r):PY P E o st r:=Qrg s f x ho cs (QZ hx) r hp
theorem QnB {f:FuncId}{cap:Array Operand}(ho:o.op=.makeFunc (.func f) #[] cap){r:List AV}(hx:evl st cap.toList=some r):PY P E o st (.fn f r):=Qmj f cap ho r (Qdu hx)
theorem Qd {f:FuncId}{xs:Array Operand}{ts:Array TypeId}{bs:List AV}{r:AV}(hc:FC P f bs r)(ho:o.op=.call { callee:=.value (.func f),args:=xs,argTypes:=ts })[hf:Xl P f]{as:List AV}(ha:evl st xs.toList=some as)(hb:fzl as=some bs):PY P E o st r:=
 Qx3 f xs ts ho as bs (Qdu ha) hb r hc
theorem WM {tt ty:TypeId}{x y:Operand}(ho:o.op=.binOp .add tt x y ty){a b:Int}(hx:X4 st x=some (.p (.int .i64 a)))(hy:X4 st y=some (.p (.int .i64 b)))(h : -9223372036854775808≤a+b∧a+b≤9223372036854775807):PY P E o st (.p (.int .i64 (a+b))):=by
 have:=QjO (P:=P) (E:=E) ho hx hy (v:=.int .i64 (IntKind.i64.wrap (a+b)))
 rwa [IntWalk.i64_in _ (by omega)] at this
theorem KV {tt ty:TypeId}{x y:Operand}(ho:o.op=.binOp .sub tt x y ty){a b:Int}(hx:X4 st x=some (.p (.int .i64 a)))(hy:X4 st y=some (.p (.int .i64 b)))(h : -9223372036854775808≤a-b∧a-b≤9223372036854775807):PY P E o st (.p (.int .i64 (a-b))):=by
 have:=QjO (P:=P) (E:=E) ho hx hy (v:=.int .i64 (IntKind.i64.wrap (a-b)))
 rwa [IntWalk.i64_in _ (by omega)] at this
theorem Qt {α:Type}{f:α→List AV}{l:List α}{k:Nat}{x:α}(h:l[k]?=some x):(l.map f)[k]?=some (f x):=by rw[List.getElem?_map,h];rfl
def QsK (st:St)(L:Nat):List (Nat×AV)→Prop
 |[]=>True
 |(i,x)::r=>Qb st.t i=some x∧okId L x=true∧QsK st L r
def Qsk (st:St)(L:Nat):List (Nat×Qj)→Prop
 |[]=>True
 |(i,x)::r=>Qb st.H i=some x∧(Nat.blt i L||Nat.ble Qf i)=true∧JB L x=true∧Qsk st L r
theorem Qa {st st':St}(hL:Nat.ble st'.nx Qf=true)(ht:QsK st st'.nx st'.t)(hH:Qsk st st'.nx st'.H):Kj E st st':=by
 refine QhK (Nat.le_of_ble_eq_true hL) ?_ ?_
 ·have key:∀l:List (Nat×AV),QsK st st'.nx l→∀p∈l,st.get p.1=p.2∧okId st'.nx p.2=true:=by
   intro l
   induction l with
   |nil=>simp
   |cons q l ih=>
    obtain⟨i,x⟩:=q;rintro⟨h1,h2,h3⟩ p hp
    rcases List.mem_cons.1 hp with rfl|hp
    ·exact⟨by simp[St.get,h1],h2⟩
    exact ih h3 p hp
  exact key _ ht
 have key:∀l:List (Nat×Qj),Qsk st st'.nx l→∀p∈l,Qb st.H p.1=some p.2∧(Nat.blt p.1 st'.nx||Nat.ble Qf p.1)=true∧JB st'.nx p.2=true:=by
  intro l
  induction l with
  |nil=>simp
  |cons q l ih=>
   obtain⟨i,x⟩:=q;rintro⟨h1,h2,h3,h4⟩ p hp
   rcases List.mem_cons.1 hp with rfl|hp
   ·exact⟨h1,h2,h3⟩
   exact ih h4 p hp
 exact key _ hH
theorem QxA {code:Code}(i:Nat){es:List (List AV)}{tk:Option Nat}(h:Qb st.t i=some (.sl es tk))(hk:es.length≤maxLen→Y1 P E code Q st):Y1 P E code Q st:=fun c a hr=>by
 have hv:=hr.tmps i
 rw[show st.get i=.sl es tk by simp[St.get,h]] at hv;obtain⟨A,cc,_,h1,h2⟩:=hv.sl_inv.sl_val;exact hk (Nat.le_trans h1 h2) c a hr
theorem Qw3 {x:Operand}{thn els:Code}{b:Bool}(hc:X4 st x=some (.p (.bool b)))(h1:b=true→Y1 P E thn Q st)(h2:b=false→Y1 P E els Q st):Y1 P E (.cond x thn els) Q st:=Qig b (QZ hc) h1 h2
theorem Qww {x:Operand}{thn els:Code}{b:Bool}(hc:X4 st x=some (.p (.bool b)))(hb:b=true)(h:Y1 P E thn Q st):Y1 P E (.cond x thn els) Q st:=QtA (by rw[QZ hc,hb]) h
theorem Qt1 {x:Operand}{thn els:Code}{b:Bool}(hc:X4 st x=some (.p (.bool b)))(hb:b=false)(h:Y1 P E els Q st):Y1 P E (.cond x thn els) Q st:=Qqe (by rw[QZ hc,hb]) h
theorem JI {x y:Code}(st1:St)(h1:Y1 P E x (QfO (fun s=>Kj E s st1) Q) st)(h2:Y1 P E y Q st1):Y1 P E (.seq x y) Q st:=by
 refine Qhh (h1.mono fun e s hq=>?_)
 cases e with
 |normal=>exact QC hq h2
 |_=>exact hq
end
end Go.Proofs.YtnkkokmmeplbgaaGreat
