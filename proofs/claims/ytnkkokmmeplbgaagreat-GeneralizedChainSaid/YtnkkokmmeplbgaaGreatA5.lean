/-
  Rows of bools of one's own: made, copied into, written, read
-/
import Derived.Test.YtnkkokmmeplbgaaGreatA4
import Derived.Laws.MakeOwn
import Derived.Laws.CopyOwn
import Derived.Laws.StructEq
import Derived.Laws.Shifts
namespace Go.Proofs.YtnkkokmmeplbgaaGreat
open Go.RowKit
def bv1 (b:Bool):List AV:=[bl b]
def bV (b:Bool):Value:=.bool b
theorem Qen (l:List Bool):(l.map bv1).flatten=l.map (fun n=>AV.p (.bool n)):=by
 induction l with
 |nil=>rfl
 |cons a l ih=>rw[List.map_cons,List.flatten_cons,List.map_cons,ih];rfl
section
variable {P:Program}{E:X7}{Q:Exit→St→Prop}{ops:Array Oper}{o:Oper}{rest:List Oper}{t:List (Nat×AV)}{H:List (Nat×Qj)}{nx N d:Nat}{w:Bool}{c:Cx}{a:Act}{st:St}
theorem QoU {xs:List Value}{l:List Bool}(hl:xs.length=l.length)(h:∀(i:Nat) (u:Value) (y:AV),xs[i]?=some u→(l.map bv1).flatten[i]?=some y→VR c u y):xs=l.map bV:=by
 apply List.ext_getElem (by simp[hl])
 intro i h1 h2
 have h3:i<l.length:=by simpa using h2
 have:=h i xs[i] (.p (.bool l[i])) (List.getElem?_eq_getElem h1) (by rw[Qen];simp[h3])
 rw[this.p_inv]
 simp[bV]
theorem Jk.bits_val (hr:Jk E c a st){q m:Nat}{te:TypeId}{l:List Bool}(hq:Qb st.H q=some (.arr te 1 (l.map bv1)))(hm:m=l.length){v:Value}(hv:VR c v (.own q m)):
  c.w.ownsRow 0 te 1 v l.length (l.map bV)∧c.V q=some v∧∀b,Xd v=some b→∀off,¬c.S b off:=by
 obtain⟨hk,v0,hv0,hor,-⟩:=hr.live q _ hq
 cases hor with
 |arr _ _ _ _ xs hown _ hx hS=>
  rw[List.length_map] at hown;obtain⟨A0,cap0,hA0⟩:=Y3 hown
  have:v=v0:=by
   cases hv with
   |fr _ _ h=>cases h
   |own _ _ _ hK hV=>rw[(hV A0 _ cap0 (by rw[hv0,hA0])).2 hm,hA0]
  subst this
  have:=QoU (c:=c) (by have:=hown.1;simpa using this) hx
  subst this
  exact⟨hown,hv0,hS⟩
theorem Jk.bits_done (hr:Jk E c a st){q:Nat}{te:TypeId}{l l2:List Bool}(hq:Qb st.H q=some (.arr te 1 (l.map bv1))){v:Value}(hv0:c.V q=some v)(hl2:l2.length=l.length){w':World}(hos:w'.os=c.w.os)(htape:w'.tape=c.w.tape)(hout:w'.output=c.w.output)(hsz:c.w.heap.size≤w'.heap.size)(hdr:c.w.drawn≤w'.drawn)
  (hblk:∀b,b<c.w.heap.size→Xd v≠some b→w'.heap[b]?=c.w.heap[b]?) (hown:w'.ownsRow 0 te 1 v l.length (l2.map bV)) (hS:∀b,Xd v=some b→∀off,¬c.S b off) :
  ∃c':Cx,c'.w=w'∧Jk E c' a (st.set q (.arr te 1 (l2.map bv1))):=by
 obtain⟨c',e1,e2,hle,e4,e5,hr'⟩:=hr.upd hq (w':=w') (S':=c.S) hv0 (.arr te 1 (l2.map bv1)) (v':=v) hos htape hout ⟨hsz,hdr⟩ hblk
  (fun b off hs=>⟨hs,World.cell?_of_block (a:=⟨b,off,none⟩) (hblk b (hr.Ssz _ _ hs) (fun e=>hS b e off hs))⟩) (fun _ _ h=>.inl h) (.inl rfl) (.refl _)
  (fun c' e1 e2 hle=>.arr _ te 1 _ (l2.map bV) (by rw[e1,List.length_map,hl2];exact hown)
   (fun e he=>by obtain⟨x,-,rfl⟩:=List.mem_map.1 he;rfl)
   (fun i u y hi hy=>by
    rw[Qen] at hy;rw[List.getElem?_map] at hi hy
    cases hx:l2[i]? with
    |none=>rw[hx] at hi;cases hi
    |some n=>rw[hx] at hi hy;cases hi;cases hy;exact .fr _ _ (.p _))
   (fun b hb off hs=>by rw[e2] at hs;exact hS b hb off hs))
 exact⟨c',e1,hr'⟩
theorem QoP (hN:E.N=N)(hB:Nat.blt nx Qf=true){tt e:TypeId}[hT:JJ P tt e 1][hZ:Xa P e [.bool false]](hby:(P.info? e).map (·.bytes)=some 1){lx cx:Operand}(ho:o.op=.makeSlice tt lx cx){n:Nat}(hl:X4 ⟨t,H,nx⟩ lx=some (.p (.int .i64 (n:Int))))(hc:X4 ⟨t,H,nx⟩ cx=some (.p (.int .i64 (n:Int))))(hn:n≤1000000)
  (hg:Qo ops ⟨t,H,nx⟩ o=some w) (hw:w=true) (hd:o.dst=some d) (hdN:Nat.blt d N=true)
  (h:Q3 P E ops rest Q ⟨(d,.own nx n)::t,(nx,.arr e 1 ((List.replicate n false).map bv1))::H,nx+1⟩):Q3 P E ops (o::rest) Q ⟨t,H,nx⟩:=by
 subst hw
 refine Qbr (.own nx n) ⟨t,(nx,.arr e 1 ((List.replicate n false).map bv1))::H,nx+1⟩ hg (dlt hN hd hdN) (fun c a hr=>?_) (by rw[hd];exact h)
 have hvl:=hr.ev lx
 rw[QZ hl] at hvl
 have hvl:=hvl.p_inv
 have hvc:=hr.ev cx
 rw[QZ hc] at hvc
 have hvc:=hvc.p_inv
 obtain⟨i,hi,hsz⟩:=JD hT.size
 have hzz:=hZ.h
 rw[hi] at hzz;rw[hi] at hby
 have hby:i.bytes=1:=by simpa using hby
 cases hz0:i.zero with
 |none=>simp[hz0] at hzz
 |some z=>
  have hzc:z.cells.toList=[.bool false]:=by simpa [hz0] using hzz
  have hzs:z.cells = #[.bool false]:=by apply Array.ext';simpa using hzc
  have hmk:=run_make (P:=P) c.w tt e i z (Xq hT.h) hi hz0 .i64 .i64 (n:Int) (n:Int) (by omega) (Int.le_refl _) (by rw[hby];omega) (by omega)
  have hcs:madeCells z.cells (n*1)=((List.replicate n false).map bV).toArray:=by
   apply Array.ext
   ·simp[madeCells]
   intro j h1 h2
   have hj:j<n:=by simpa using h2
   simp[madeCells,hzs,bV,Nat.mod_one]
  have hrun:(execOp a.eval o).run P c.w=.ok (.value (.slice (some ⟨c.w.heap.size,0,none⟩) n n)) (c.w.alloc (.cells ((List.replicate n false).map bV).toArray e)):=by
   simp only[Int.toNat_natCast,hsz,hcs] at hmk
   simp[execOp,ho,hvl,hvc,hmk]
  have hown:(c.w.alloc (.cells ((List.replicate n false).map bV).toArray e)).ownsRow 0 e 1 (.slice (some ⟨c.w.heap.size,0,none⟩) n n) n ((List.replicate n false).map bV):=
   ⟨by simp,.inr ⟨c.w.heap.size,n,_,rfl,Nat.zero_le _,WB _ _ _,Nat.le_refl _,by unfold maxLen;omega,by simp,by simp⟩⟩
  obtain⟨c',e1,e2,hle,e4,e5,hr'⟩:=hr.new (Nat.le_of_ble_eq_true hB) (KA c.w (.cells ((List.replicate n false).map bV).toArray e)) (.slice (some ⟨c.w.heap.size,0,none⟩) n n) (.arr e 1 ((List.replicate n false).map bv1))
   (fun c' e1 e2 hle=>.arr _ e 1 _ ((List.replicate n false).map bV) (by rw[e1,List.length_map,List.length_replicate];exact hown) (fun e he=>by obtain⟨x,-,rfl⟩:=List.mem_map.1 he;rfl) (fun j u y hj hy=>by
    rw[Qen] at hy;rw[List.getElem?_map] at hj hy
    cases hx:(List.replicate n false)[j]? with
    |none=>rw[hx] at hj;cases hj
    |some b=>rw[hx] at hj hy;cases hj;cases hy;exact .fr _ _ (.p _)) (fun b hb off hs=>by
    rw[e2] at hs
    have:c.w.heap.size=b:=by simpa [Xd] using hb
    subst this
    exact Nat.lt_irrefl _ (hr.Ssz _ _ hs))) (fun b hb=>by
    have:c.w.heap.size=b:=by simpa [Xd] using hb
    omega)
  refine⟨_,c',by rw[e1];exact hrun,hr',.own _ _ _ e4 (fun A n' cap hh=>?_)⟩;rw[show c'.V nx=some _ from e5] at hh
  cases hh
  exact⟨Nat.le_refl _,fun _=>rfl⟩
theorem Qt2 (hN:E.N=N){tt e:TypeId}[hT:JJ P tt e 1]{dx sx:Operand}(ho:o.op=.call { callee:=.builtin .copy,args := #[dx,sx],argTypes := #[tt,tt] }){q n:Nat}(hx:X4 ⟨t,H,nx⟩ dx=some (.own q n)){te:TypeId}(l:List Bool)(hq:Qb H q=some (.arr te 1 (l.map bv1)))(hn:n=l.length)(l2:List Bool){tk:Option Nat}(hy:X4 ⟨t,H,nx⟩ sx=some (.sl (l2.map bv1) tk))(h2:l2.length=l.length)
  (hg:Qo ops ⟨t,H,nx⟩ o=some w) (hw:w=true) (hd:o.dst=some d) (hdN:Nat.blt d N=true)
  (h:Q3 P E ops rest Q ⟨(d,.bot)::t,(q,.arr te 1 (l2.map bv1))::H,nx⟩):Q3 P E ops (o::rest) Q ⟨t,H,nx⟩:=by
 subst hw
 refine Qbr .bot (St.set ⟨t,H,nx⟩ q (.arr te 1 (l2.map bv1))) hg (dlt hN hd hdN) (fun c a hr=>?_) (by rw[hd];exact h)
 have hvd:=hr.ev dx
 rw[QZ hx] at hvd
 have hvs:=hr.ev sx
 rw[QZ hy] at hvs;obtain⟨hown,hV,hS⟩:=hr.bits_val hq hn hvd
 have hss:(P.info? e).map (·.size)=some 1:=hT.size
 have hfr:=hvs.sl_inv
 generalize hvx:a.eval sx=vs at hfr
 cases hfr with
 |sl A m cc k _ b off f hlm hm hcc hA hk hcell hfr=>
  rw[List.length_map] at hlm
  rcases hown.2 with ⟨hv,h0⟩|⟨g,cap,cur,hv,-,hgb,hnc,hcm,hcs,htk⟩
  ·-- nothing
   have e2:l2=[]:=List.eq_nil_of_length_eq_zero (by omega)
   have e1:l=[]:=List.eq_nil_of_length_eq_zero (by omega)
   subst e2 e1
   have hrun:=run_copy_none (P:=P) c.w tt tt o.type e none A 0 0 m cc (Xq hT.h) hss (by simp)
   refine⟨goInt (0:Nat),c,by simp[execOp,ho,resolve,invoke,builtin,hv,hvx,hrun],?_,.fr _ _ (.bot _)⟩
   exact hr.congr ⟨fun _=>rfl,fun o=>by
    show Qb H o=Qb ((q,Qj.arr te 1 (List.map bv1 []))::H) o
    rw[Qn];split
    ·rename_i e;subst e;exact hq
    rfl,rfl⟩
  ·by_cases h0:l.length=0
   ·have e2:l2=[]:=List.eq_nil_of_length_eq_zero (by omega)
    have e1:l=[]:=List.eq_nil_of_length_eq_zero (by omega)
    subst e2 e1
    have hrun:=run_copy_none (P:=P) c.w tt tt o.type e (some ⟨g,0,none⟩) A 0 cap m cc (Xq hT.h) hss (by simp)
    refine⟨goInt (0:Nat),c,by rw[List.length_nil] at hv;simp[execOp,ho,resolve,invoke,builtin,hv,hvx,hrun],?_,.fr _ _ (.bot _)⟩
    exact hr.congr ⟨fun _=>rfl,fun o=>by
     show Qb H o=Qb ((q,Qj.arr te 1 (List.map bv1 []))::H) o
     rw[Qn];split
     ·rename_i e;subst e;exact hq
     rfl,rfl⟩
   ·obtain rfl:=hA (by omega)
    have hsrc:∀j v,(l2.map bV)[j]?=some v→c.w.cell? ((⟨b,off,none⟩:Addr).add j)=some v:=fun j v hj=>by
     rw[List.getElem?_map] at hj
     cases hb2:l2[j]? with
     |none=>rw[hb2] at hj;cases hj
     |some x=>
      rw[hb2] at hj
      cases hj
      have e1:(l2.map bv1)[j]?=some [bl x]:=by rw[List.getElem?_map,hb2];rfl
      have hk1:k=1:=by rw[←hk j _ e1];rfl
      subst hk1
      obtain⟨_,hc2⟩:=hcell j _ 0 _ e1 rfl
      have hf2:=hfr j _ 0 _ e1 rfl
      have e3:=(VR.fr _ _ hf2:VR c _ _).p_inv
      rw[e3] at hc2;rw[Addr.add_mk];rw[Nat.mul_one,Nat.add_zero] at hc2;exact hc2
    have hrun:=run_copy_row (P:=P) c.w tt tt o.type e g 0 l.length cap ⟨b,off,none⟩ m cc cur te (l2.map bV) (Xq hT.h) hss hgb (by rw[List.length_map,hlm];exact(Nat.min_eq_left (by omega)).symm) hsrc (by rw[List.length_map,hcs];omega) (fun v hv=>by obtain⟨x,-,rfl⟩:=List.mem_map.1 hv;rfl)
    simp only[Nat.zero_add,List.take_zero,List.nil_append,List.length_map] at hrun
    have hglt:g<c.w.heap.size:=(Array.getElem?_eq_some_iff.1 hgb).1
    obtain⟨c',e3,hr'⟩:=hr.bits_done hq (l2:=l2) hV h2 (w':=c.w.setRow g (l2.map bV++cur.toList.drop l2.length).toArray) rfl rfl rfl (by simp[World.setRow]) (Nat.le_refl _) (fun k hk hne=>setRow_other c.w g k _ (fun e=>hne (by rw[hv,e];rfl)))
     ⟨by simp[h2],.inr ⟨g,cap,_,hv,Nat.zero_le _,by
      show(c.w.heap.modify g _)[g]?=_
      rw[Array.getElem?_modify,if_pos rfl,hgb];rfl,hnc,hcm,by simp[hcs];omega,by
      rw[Nat.mul_one,List.take_append_of_le_length (by simp[h2])]
      exact List.take_of_length_le (by simp[h2])⟩⟩ hS
    exact⟨goInt (l2.length:Nat),c',by rw[e3];simp[execOp,ho,resolve,invoke,builtin,hv,hvx,hrun],hr',.fr _ _ (.bot _)⟩
theorem QhE (hN:E.N=N){tt:TypeId}{x y:Operand}(ho:o.op=.store tt x y)[hT:XV P tt 1 false]{q m off:Nat}(hx:X4 ⟨t,H,nx⟩ x=some (.eptr q m off)){te:TypeId}(l:List Bool)(hq:Qb H q=some (.arr te 1 (l.map bv1)))(hm:m=l.length)(j:Nat)(hoff:off=j*1)(hj:j<l.length){b:Bool}(hy:X4 ⟨t,H,nx⟩ y=some (bl b))
  (hg:Qo ops ⟨t,H,nx⟩ o=some w) (hw:w=true) (hd:o.dst=none) (h:Q3 P E ops rest Q ⟨t,(q,.arr te 1 ((l.set j b).map bv1))::H,nx⟩):Q3 P E ops (o::rest) Q ⟨t,H,nx⟩:=by
 subst hw hm hoff
 have _:=hN
 refine Qdf (St.set ⟨t,H,nx⟩ q (.arr te 1 ((l.set j b).map bv1))) hg (Qxf hd) (fun c a hr=>?_) (by rw[hd];exact h)
 have hvx:=hr.ev x
 rw[QZ hx] at hvx
 have hvy:=hr.ev y
 rw[QZ hy] at hvy
 have hvy:=hvy.p_inv
 obtain⟨hk,v0,hv0,hor,_⟩:=hr.live q _ hq
 cases hor with
 |arr _ _ _ _ xs hown _ hxs hS=>
  rw[List.length_map] at hown
  have hxe:=QoU (c:=c) (by have:=hown.1;simpa using this) hxs
  subst hxe
  rcases hown.2 with ⟨hn,h0⟩|⟨g,cap,cur,rfl,-,hgb,hnc,hcm,hcs,htk⟩
  ·omega
  have hvp:a.eval x=.pointer (some ⟨g,j*1,none⟩):=by
   generalize a.eval x=vx at hvx
   cases hvx with
   |fr _ _ h=>cases h
   |eptr _ _ _ _ hK hV=>
    obtain⟨_,h2⟩:=hV _ _ _ hv0;obtain⟨b',h3,h4⟩:=h2 rfl
    cases h3
    exact h4
  have hglt:g<c.w.heap.size:=(Array.getElem?_eq_some_iff.1 hgb).1
  obtain⟨cur',h4,h5,h6⟩:=Qan g te (0,0) [Value.bool b] (j*1) c.w cur hgb;obtain⟨r1,r2,r3,r4,r5⟩:=WA g [Value.bool b] (j*1) c.w
  have hcur:∀i,i<l.length→cur[i]?=(l.map bV)[i]?:=fun i hi=>by
   have:=congrArg (·[i]?) htk
   simpa only [Nat.mul_one,List.getElem?_take,if_pos hi,Array.getElem?_toList] using this
  obtain⟨c',e1,hr'⟩:=hr.bits_done hq (l2:=l.set j b) hv0 (by simp) (w':=c.w.setCells g (j*1) [Value.bool b]) r1 r2 r3 (by rw[r4];exact Nat.le_refl _) (by rw[r5];exact Nat.le_refl _) (fun k hk hne=>J7 g _ _ _ k (fun e=>hne (by rw[e];rfl)))
   ⟨by simp,.inr ⟨g,cap,cur',rfl,Nat.zero_le _,h4,hnc,hcm,by rw[h5,hcs],by
    have:=QmZ (cur:=cur') (l:=(l.set j b).map bV) (by rw[h5,hcs];simp;omega) (fun i hi=>by
     have hi:i<l.length:=by rw[List.length_map,List.length_set] at hi;exact hi
     rw[h6,List.getElem?_map]
     by_cases hij:i=j
     ·subst hij
      rw[if_pos ⟨by omega,by simp,by omega⟩,List.getElem?_set_self hj]
      simp[bV]
     rw[if_neg (by simp;omega),hcur i hi,List.getElem?_map,List.getElem?_set_ne (fun e=>hij e.symm)])
    simpa using this⟩⟩ hS
  refine⟨c',?_,hr'⟩;rw[e1];obtain⟨ti,hti,hts⟩:=JD hT.size
  have hrun:=run_storeCells_cells (P:=P) g (j*1) [Value.bool b] 0 c.w
   (fun i hi=>by
    rw[KT hgb]
    have hi:i=0:=by simpa using hi
    subst hi
    have:j<cur.size:=by omega
    simp[this])
   (fun j hj=>by simp[World.frozen?,hgb]) (fun v hv=>by simp at hv;subst hv;rfl)
  rw[Nat.add_zero,Nat.mul_one] at hrun
  simp[execOp,ho,hvp,hvy,Instr.storeAt,Instr.sureAddr,storeVar,sizeOf,typeInfo,hti,hts,Value.cells,hrun]
end
class Qo2 (P:Program) (t:TypeId):Prop where
 u:P.underlying t=some (.struct (P.fieldsOf t))
 hp:P.stoodInHeld t=false
 hm:P.eqGuardType P.depth t=false
 f:(P.fieldsOf t).toList.map (fun f=>(f.name=="_",Qjl P f.type,f.offset))=[(false,some IntKind.i64,0),(false,some IntKind.i64,1)]
section
variable {P:Program}{E:X7}{st:St}{o:Oper}{c:Cx}{a:Act}
instance {t:TypeId}{n:Int}:QaG P t .shr (.int .u64 n) (.int .u64 1) (.int .u64 (n / 2)):=⟨fun x y w=>by
 rw[Sem.run_bind]
 simp[eqGuard_shr,binOp_shr,shift_shr_any,IntKind.bits]⟩
theorem Qni {l:List Bool}{j:Nat}{y:Bool}(h:l[j]?=some y):∃r,(l.map bv1).flatten.drop (j*1)=bl y::r:=by
 rw[Qen,Nat.mul_one];obtain⟨h1,h2⟩:=List.getElem?_eq_some_iff.1 h;refine⟨(l.map (fun n=>AV.p (.bool n))).drop (j+1),?_⟩;rw[List.drop_eq_getElem_cons (by simpa using h1)]
 simp[h2]
theorem QaN {tt:TypeId}{x:Operand}(ho:o.op=.load tt x)[hT:XV P tt 1 false]{q m off:Nat}(hx:X4 st x=some (.eptr q m off)){te:TypeId}(l:List Bool)(hq:Qb st.H q=some (.arr te 1 (l.map bv1)))(hm:m=l.length)(j:Nat)(hoff:off=j*1){y:Bool}(hy:l[j]?=some y):PY P E o st (.p (.bool y)):=by
 obtain⟨r,hr⟩:=Qni hy
 subst hm hoff
 refine Xc ho hx (cs:=bl y::r) ?_ rfl rfl
 simp only[St.at_,hq,List.length_map]
 rw[Nat.beq_refl,hr];rfl
theorem W2 {f:Field}{k:IntKind}(h:Qjl P f.type=some k){cs:Array Value}{v:Value}(hv:cs[f.offset]?=some v)(w:World):(part f.type cs f.offset).run P w=.ok v w:=by
 have hu:=WK h
 unfold part isAgg
 simp[run_underlying hu,hv]
theorem QxH {tt ty:TypeId}{x y:Operand}(ho:o.op=.binOp .eql tt x y ty)[hT:Qo2 P tt]{a1 a2 b1 b2:Int}(hx:X4 st x=some (.agg [.p (.int .i64 a1),.p (.int .i64 a2)]))(hy:X4 st y=some (.agg [.p (.int .i64 b1),.p (.int .i64 b2)])){b:Bool}(hb:(a1==b1&&a2==b2)=b):PY P E o st (.p (.bool b)):=by
 subst hb
 refine Kh fun st' h1 h2 c a hr=>?_
 have hvx:=hr.ev x
 rw[h1 x (by simp[ho,Op.operands]),QZ hx] at hvx
 have hvy:=hr.ev y
 rw[h1 y (by simp[ho,Op.operands]),QZ hy] at hvy
 have two:∀ {v:Value} {p q:Int},VR c v (.agg [.p (.int .i64 p),.p (.int .i64 q)])→v=.agg #[.int .i64 p,.int .i64 q]:=by
  intro v p q h
  have key:∃vs:List Value,v=.agg vs.toArray∧vs.length=2∧∀(i:Nat) (v:Value) (x:AV),vs[i]?=some v→[AV.p (.int .i64 p),.p (.int .i64 q)][i]?=some x→VR c v x:=by
   cases h with
   |fr _ _ h=>cases h with|agg vs _ hl h=>exact⟨vs,rfl,hl,fun i v x h1 h2=>.fr _ _ (h i v x h1 h2)⟩
   |agg vs _ hl h=>exact⟨vs,rfl,hl,h⟩
  obtain⟨vs,rfl,hl,hp⟩:=key
  match vs,hl with
  |[v1,v2],_=>rw[(hp 0 v1 _ rfl rfl).p_inv,(hp 1 v2 _ rfl rfl).p_inv]
 refine⟨_,?_,.fr _ _ (.p _)⟩;rw[execOp,ho]
 simp only[two hvx,two hvy]
 have hg:=run_eqGuard_agg (P:=P) c.w .eql tt x y #[.int .i64 a1,.int .i64 a2] #[.int .i64 b1,.int .i64 b2] hT.hm
 have hfs:=hT.f
 generalize hfl:(P.fieldsOf tt).toList=fs at hfs
 obtain⟨f1,f2,rfl⟩:∃f1 f2,fs=[f1,f2]:=by
  have h2:fs.length=2:=by simpa using congrArg List.length hfs
  match fs,h2 with
  |[f1,f2],_=>exact⟨f1,f2,rfl⟩
 simp only[List.map_cons,List.map_nil,List.cons.injEq,Prod.mk.injEq,and_true] at hfs
 obtain⟨⟨n1,i1,o1⟩,n2,i2,o2⟩:=hfs
 have m1:f1.name≠"_":=by simpa using n1
 have m2:f2.name≠"_":=by simpa using n2
 have p1:=fun w=>W2 (P:=P) i1 (cs := #[.int .i64 a1,.int .i64 a2]) (v:=.int .i64 a1) (by rw[o1];rfl) w
 have p2:=fun w=>W2 (P:=P) i2 (cs := #[.int .i64 a1,.int .i64 a2]) (v:=.int .i64 a2) (by rw[o2];rfl) w
 have r1:=fun w=>W2 (P:=P) i1 (cs := #[.int .i64 b1,.int .i64 b2]) (v:=.int .i64 b1) (by rw[o1];rfl) w
 have r2:=fun w=>W2 (P:=P) i2 (cs := #[.int .i64 b1,.int .i64 b2]) (v:=.int .i64 b2) (by rw[o2];rfl) w
 have he:=run_eql_struct (P:=P) c.w tt #[.int .i64 a1,.int .i64 a2] #[.int .i64 b1,.int .i64 b2]
 rw[run_equalIn_agg _ _ _ _ _ hT.u hT.hp,hfl] at he
 have e1:=fun w=>run_equalIn_int (P:=P) w 9998 f1.type .i64 .i64 a1 b1 (WK i1)
 have e2:=fun w=>run_equalIn_int (P:=P) w 9998 f2.type .i64 .i64 a2 b2 (WK i2)
 cases hc1:(a1==b1)<;>cases hc2:(a2==b2) <;>
  simp[Op.eqFields,m1,m2,p1,p2,r1,r2,e1,e2,hc1,hc2] at he<;>simp[hg,he]
end
section
variable {E:X7}{c:Cx}{a:Act}{st:St}{t:List (Nat×AV)}{H:List (Nat×Qj)}{nx:Nat}
theorem QmK (q i:Nat){tt:TypeId}{cs:List AV}(hq:Qb H q=some (.var tt cs)){es:List (List AV)}{tk:Option Nat}(h:cs[i]?=some (.sl es tk)):Kj E ⟨t,H,nx⟩ ⟨t,(q,.var tt (cs.set i (.sl es none)))::H,nx⟩:=fun c a hr=>by
 have hlk:∀o,Qb ((q,Qj.var tt (cs.set i (.sl es none)))::H) o=if o=q then some (Qj.var tt (cs.set i (.sl es none))) else Qb H o:=fun o=>Qn _ _ _ _
 refine⟨c,rfl,{ hr with live:=fun o ob ho=>?_,dead:=fun o ho=>?_ }⟩
 ·replace ho:Qb ((q,Qj.var tt (cs.set i (.sl es none)))::H) o=some ob:=ho
  rw[hlk] at ho
  split at ho
  ·rename_i e
   subst e
   cases ho
   obtain⟨g1,v,g2,g3,g4⟩:=hr.live _ _ hq;refine⟨g1,v,g2,?_,g4⟩
   cases g3 with
   |var b ccs _ _ hb hl hc hS=>
    refine .var b ccs tt _ hb (by simp[hl]) (fun j u x hj hx=>?_) hS;rw[List.getElem?_set] at hx
    split at hx
    ·rename_i e
     subst e
     split at hx
     ·cases hx
      exact .fr _ _ (hc _ u _ hj h).sl_inv
     cases hx
    exact hc j u x hj hx
  exact hr.live o ob ho
 replace ho:Qb ((q,Qj.var tt (cs.set i (.sl es none)))::H) o=none:=ho
 rw[hlk] at ho
 split at ho
 ·cases ho
 exact hr.dead o ho
end
inductive QkP (st:St):AV→AV→Prop
 |fz {x y:AV} (h:x.fz=some y):QkP st x y
 |ptr {q off:Nat} {tt:TypeId} {cs ys:List AV} {zs:List AV} (hq:Qb st.H q=some (.var tt cs)) (hz:fzs cs=some ys) (hd:ys.drop off=zs):QkP st (.ptr q off) (.el zs)
 |own {q n:Nat} {te:TypeId} {k:Nat} {es:List (List AV)} (hq:Qb st.H q=some (.arr te k es)) (hn:n=es.length) (hk:es.all (okE k)=true) (hz:∀e∈es,fzs e=some e):QkP st (.own q n) (.sl es none)
inductive Qjc (st:St):List AV→List AV→Prop
 |nil:Qjc st [] []
 |cons {x y:AV} {xs ys:List AV} (h:QkP st x y) (t:Qjc st xs ys):Qjc st (x::xs) (y::ys)
def AV.plain:AV→Bool
 | .p _=>true
 | .tup xs=>xs.all fun x=>match x with | .p _=>true|_=>false
 |_=>false
theorem Qjc.spec {st:St}{xs ys:List AV}(h:Qjc st xs ys):ys.length=xs.length∧∀(i:Nat) (x y:AV),xs[i]?=some x→ys[i]?=some y→QkP st x y:=by
 induction h with
 |nil=>exact⟨rfl,by simp⟩
 |cons h _ ih=>
  refine⟨by simp[ih.1],fun i x y h1 h2=>?_⟩
  cases i with
  |zero=>simp at h1 h2;subst h1 h2;exact h
  |succ i=>exact ih.2 i x y (by simpa using h1) (by simpa using h2)
theorem FR.plain {w:World}{S:Nat→Nat→Prop}{c:Cx}{v:Value}{x:AV}(h:FR w S v x)(hp:x.plain=true):VR c v x:=by
 cases h with
 |p v=>exact .fr _ _ (.p _)
 |tup vs cs hl h=>
  refine .fr _ _ (.tup vs cs hl fun i v x h1 h2=>?_)
  have h3:=h i v x h1 h2
  have h4:=List.all_eq_true.1 hp x (List.mem_of_getElem? h2)
  cases h3 with
  |p v=>exact .p _
  |_=>cases h4
 |_=>cases hp
def QpD (c:Cx):Nat→Nat→Prop:=fun b off=>c.S b off∨(b<c.w.heap.size∧∀off',¬c.S b off')
section
variable {P:Program}{E:X7}{st:St}{o:Oper}{c:Cx}{a:Act}
theorem Qk4:∀b off,c.S b off→QpD c b off∧c.w.cell? ⟨b,off,none⟩=c.w.cell? ⟨b,off,none⟩:=fun _ _ h=>⟨.inl h,rfl⟩
theorem Jk.lent (hr:Jk E c a st){x y:AV}(h:QkP st x y){v:Value}(hv:VR c v x):FR c.w (QpD c) v y:=by
 cases h with
 |fz h=>exact(hv.fz h).mono Qk4
 | @ptr q off tt cs ys zs hq hz hd=>
  subst hd
  obtain⟨hKq,vq,hVq,hor,hwr⟩:=hr.live q _ hq
  cases hor with
  |var b ccs _ _ hb hl hc hS=>
   obtain⟨z1,z2⟩:=Wa hz
   have hbl:b<c.w.heap.size:=(Array.getElem?_eq_some_iff.1 hb).1
   have hv:v=.pointer (some ⟨b,off,none⟩):=by
    cases hv with
    |fr _ _ h=>cases h
    |ptr _ _ _ _ hV=>exact hV b hVq
   subst hv
   refine .el b off (ys.drop off) (fun i=>(ccs[off+i]?).getD undef) (fun i x hi=>?_) (fun i x hi=>?_)
   all_goals
    rw[List.getElem?_drop] at hi
    have hlt:off+i<cs.length:=by have:=(List.getElem?_eq_some_iff.1 hi).1;omega
    have hcc:ccs[off+i]?=some ccs[off+i]:=Array.getElem?_eq_getElem (by omega)
   ·refine⟨.inr ⟨hbl,hS⟩,?_⟩
    rw[hcc]
    simp only[World.cell?,hb]
    exact hcc
   rw[hcc]
   have:=(hc _ _ _ hcc (List.getElem?_eq_getElem hlt)).fz1 (z2 _ _ x (List.getElem?_eq_getElem hlt) hi)
   exact this.mono Qk4
 | @own q n te k es hq hn hk hz=>
  subst hn
  obtain⟨hKq,vq,hVq,hor,hwr⟩:=hr.live q _ hq
  cases hor with
  |arr _ _ _ _ xs hown hek hx hS=>
   obtain⟨A0,cap0,hA0⟩:=Y3 hown
   have:v=vq:=by
    cases hv with
    |fr _ _ h=>cases h
    |own _ _ _ hK hV=>rw[(hV A0 _ cap0 (by rw[hVq,hA0])).2 rfl,hA0]
   subst this
   refine FR.of_own (xs:=xs) (n:=es.length) (te:=te) (k:=k) hown rfl hk (fun b hb off hoff=>.inr ⟨WH hown hb,hS b hb⟩) (fun i u y hi hy=>?_)
   have hfz:∀x∈es.flatten,x.fz1=some x:=fun x hx=>by
    obtain⟨e,he,hxe⟩:=List.mem_flatten.1 hx;obtain⟨m,hm⟩:=List.getElem?_of_mem hxe;exact(Wa (hz e he)).2 m x x hm hm
   exact((hx i u y hi hy).fz1 (hfz y (List.mem_of_getElem? hy))).mono Qk4
theorem QkP.keep {st':St}(h2:QcL st.H st'.H){x y:AV}(h:QkP st x y):QkP st' x y:=by
 cases h with
 |fz h=>exact .fz h
 |ptr hq hz hd=>exact .ptr (h2 _ _ hq rfl) hz hd
 |own hq hn hk hz=>exact .own (h2 _ _ hq rfl) hn hk hz
theorem Qim {f:FuncId}{bs:List AV}{r:AV}(hc:FC P f bs r)(hp:r.plain=true){xs:Array Operand}{ts:Array TypeId}(ho:o.op=.call { callee:=.value (.func f),args:=xs,argTypes:=ts })[hf:Xl P f]{zs:List AV}(ha:evl st xs.toList=some zs)(hb:Qjc st zs bs):PY P E o st r:=by
 intro st' h1 h2 c a hr K Q hK
 have he:=Qdu ha
 have hev:xs.toList.map st'.ev=zs:=by
  rw[←he]
  refine List.map_congr_left fun y hy=>h1 y ?_
  simp only[ho,Op.operands,Call.operands]
  simp[Array.mem_toList_iff.1 hy]
 obtain⟨h3,h4⟩:=hb.spec
 have hl:zs.length=xs.size:=by rw[←hev];simp
 have hfrs:FRs c.w (QpD c) (xs.toList.map a.eval) bs:=by
  refine⟨by simp[h3,hl],fun i v y hi hj=>?_⟩
  have hix:i<zs.length:=by have:=(List.getElem?_eq_some_iff.1 hj).1;omega
  have hvx:VR c v zs[i]:=by
   rw[List.getElem?_map] at hi
   cases hq:xs.toList[i]? with
   |none=>rw[hq] at hi;cases hi
   |some q=>
    rw[hq] at hi;cases hi
    have:zs[i]?=some (st'.ev q):=by rw[←hev,List.getElem?_map,hq];rfl
    rw[List.getElem?_eq_getElem hix] at this;rw[Option.some.inj this];exact hr.ev q
  exact hr.lent ((h4 i _ y (List.getElem?_eq_getElem hix) hj).keep h2) hvx
 have hcall:=hc c.w (QpD c) _ (fun b off hs=>by
  rcases hs with hs|hs
  ·exact hr.Ssz b off hs
  exact hs.1) hfrs
 have hrun:(execOp a.eval o).run P c.w=.ok (.enter f (xs.toList.map a.eval).toArray) c.w:=by
  have e1:a.eval (.func f)=.func (.func f) #[] #[]:=rfl
  have e2:(xs.toList.map a.eval).toArray=xs.map a.eval:=by apply Array.ext';simp
  simp[execOp,ho,resolve,invoke,e1,Deferred.ofValue,hf.h,e2]
 unfold Oper.wp
 rw[hrun,Oper.upon_enter];refine hcall.mono ?_;rintro e w' ⟨v,S',rfl,hw,hS,hS',hv⟩
 obtain⟨hle,hr'⟩:=hr.ext (w':=w') (S':=fun b off=>c.S b off∨(c.w.heap.size≤b∧b<w'.heap.size∧S' b off)) hw (fun b off h=>.inl h) (fun b off h=>by
  rcases h with h|h
  ·exact .inl h
  exact .inr ⟨h.1,h.2.1⟩)
 exact hK _ v hr' (hv.plain hp)
theorem Qo5 {src dst:TypeId}{x:Operand}(ho:o.op=.convert src dst x){k0 k1 k:IntKind}[h0:QdE P src k0][h1:QdE P dst k1]{n:Int}(hx:X4 st x=some (.p (.int k n)))(m:Int)(hm:k1.wrap n=m):PY P E o st (.p (.int k1 m)):=by
 subst hm;exact Qwi ho hx
end
section
variable {P:Program}{E:X7}{ops:Array Oper}{md:Region.Mode}
def aSt (P:Program)(E:X7)(ops:Array Oper)(i:Nat)(T:St→Prop)(s:St):Prop:=
 ∃o s',ops[i]?=some o∧Qo ops s o=some true∧o.dst=none∧(∀c a,Jk E c a s→∃c':Cx,(execOp a.eval o).run P c.w=.ok .skip c'.w∧Jk E c' a s')∧T s'
theorem QG {i:Nat}{o:Oper}{T:St→Prop}{s:St}(hi:ops[i]?=some o)(h:JE P E ops T [o] s):aOp P E ops i T s:=by
 unfold aOp
 simp only[hi]
 exact h
theorem Xs {i:Nat}{o:Oper}{t:List (Nat×AV)}{H:List (Nat×Qj)}{nx:Nat}{w:Bool}{T:St→Prop}(hi:ops[i]?=some o){tt:TypeId}{x y:Operand}(ho:o.op=.store tt x y){n:Nat}{row:Bool}[hT:XV P tt n row]{q off:Nat}(hx:X4 ⟨t,H,nx⟩ x=some (.ptr q off)){t':TypeId}{cs:List AV}(hq:Qb H q=some (.var t' cs)){ay:AV}{ys:List AV}
  (hy:X4 ⟨t,H,nx⟩ y=some ay) (hc:St.cells1 ⟨t,H,nx⟩ ay=some ys) (hn:ys.length=n) (hle:off+ys.length≤cs.length) (hg:Qo ops ⟨t,H,nx⟩ o=some w) (hw:w=true) (hd:o.dst=none)
  {cs':List AV} (hs:Yq cs off ys=cs') (h:T ⟨t,(q,.var t' cs')::H,nx⟩):aSt P E ops i T ⟨t,H,nx⟩:=by
 subst hw hs
 refine⟨o,St.set ⟨t,H,nx⟩ q (.var t' (Yq cs off ys)),hi,hg,hd,fun c a hr=>?_,h⟩
 have hce:=hr.ev y
 rw[QZ hy] at hce;obtain⟨h1,h2,h3⟩:=hr.cells hce hc
 have hvx:=hr.ev x
 rw[QZ hx] at hvx;obtain⟨hk,v0,hv0,hor,_⟩:=hr.live q _ hq
 cases hor with
 |var b ccs _ _ hh hl hp hS=>
  have hvp:a.eval x=.pointer (some ⟨b,off,none⟩):=by
   generalize a.eval x=vx at hvx
   cases hvx with
   |fr _ _ h=>cases h
   |ptr _ _ _ _ hV=>exact hV b hv0
  have hb:b<c.w.heap.size:=(Array.getElem?_eq_some_iff.1 hh).1
  obtain⟨ccs',h4,h5,h6⟩:=Qan b t' (0,0) (a.eval y).cells.toList off c.w ccs hh;obtain⟨r1,r2,r3,r4,r5⟩:=WA b (a.eval y).cells.toList off c.w
  have hyl:(a.eval y).cells.toList.length=ys.length:=by simpa using h1
  obtain⟨c',e1,-,hle',-,-,hr'⟩:=hr.upd hq (w':=c.w.setCells b off (a.eval y).cells.toList) (S':=c.S) hv0 (.var t' (Yq cs off ys)) (v':=.pointer (some ⟨b,0,none⟩)) r1 r2 r3 ⟨by omega,by omega⟩
   (fun k hk hne=>J7 b _ _ _ k (fun e=>hne (by rw[e];rfl)))
   (fun b' off' hs=>⟨hs,by
    have hne:b'≠b:=fun e=>hS off' (e▸hs)
    have:=J7 b (a.eval y).cells.toList off c.w b' hne
    simp only[World.cell?,this]⟩)
   (fun b' off' hs=>.inl hs) (.inl rfl) (.refl _)
   (fun c' e1 e2 hle'=>.var b ccs' t' _ (by rw[e1];exact h4) (by rw[h5,hl];unfold Yq;simp;omega) (fun i u z hi hj=>by
    rw[h6 i] at hi;rw[Qdr cs off ys hle i] at hj
    by_cases hin:off≤i∧i<off+ys.length
    ·rw[if_pos hin] at hj
     rw[if_pos (by omega)] at hi;exact(h2 _ u z (by simpa using hi) hj).mono hle'
    rw[if_neg hin] at hj;rw[if_neg (by omega)] at hi
    exact(hp i u z hi hj).mono hle') (fun off' hs=>hS off' (by rw[e2] at hs;exact hs)))
  refine⟨c',?_,hr'⟩;obtain⟨i,hi,hsz⟩:=JD hT.size
  have hrun:=run_storeCells_cells (P:=P) b off (a.eval y).cells.toList 0 c.w
   (fun j hj=>by
    rw[KT hh];have:off+j<ccs.size:=by omega
    simp[this])
   (fun j hj=>by simp[World.frozen?,hh]) (fun v hv=>h3 v hv)
  rw[Nat.add_zero] at hrun;rw[e1];have hsz2:(a.eval y).cells.size=i.size:=by omega
  simp[execOp,ho,hvp,Instr.storeAt,Instr.sureAddr,storeVar,sizeOf,typeInfo,hi,hsz2,hrun]
end
end Go.Proofs.YtnkkokmmeplbgaaGreat
