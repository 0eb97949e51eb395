/-
  Contracts of the reference: clocks, descriptions.
-/
import Derived.Test.YtnkkokmmeplbgaaGreatC1
import Derived.Test.YtnkkokmmeplbgaaGreatB3
namespace Go.Proofs.YtnkkokmmeplbgaaGreat
set_option maxRecDepth 100000
set_option maxHeartbeats 1000000
open Go.RowKit
theorem Qxx {P:Program}{E:X7}{st:St}{o:Oper}{tt ty:TypeId}{x y:Operand}(ho:o.op=.binOp .neq tt x y ty)[hT:Qo2 P tt]{a1 a2 b1 b2:Int}(hx:X4 st x=some (.agg [.p (.int .i64 a1),.p (.int .i64 a2)]))(hy:X4 st y=some (.agg [.p (.int .i64 b1),.p (.int .i64 b2)])){b:Bool}(hb:(!(a1==b1&&a2==b2))=b):PY P E o st (.p (.bool b)):=by
 subst hb
 refine Kh fun st' h1 h2 c a hr=>?_
 have hvx:=hr.ev x
 rw[h1 x (by simp[ho,Op.operands]),QZ hx] at hvx
 have hvy:=hr.ev y
 rw[h1 y (by simp[ho,Op.operands]),QZ hy] at hvy
 have two:∀ {v:Value} {p q:Int},VR c v (.agg [.p (.int .i64 p),.p (.int .i64 q)])→v=.agg #[.int .i64 p,.int .i64 q]:=by
  intro v p q h
  have key:∃vs:List Value,v=.agg vs.toArray∧vs.length=2∧∀(i:Nat) (v:Value) (x:AV),vs[i]?=some v→[AV.p (.int .i64 p),.p (.int .i64 q)][i]?=some x→VR c v x:=by
   cases h with
   |fr _ _ h=>cases h with|agg vs _ hl h=>exact⟨vs,rfl,hl,fun i v x h1 h2=>.fr _ _ (h i v x h1 h2)⟩
   |agg vs _ hl h=>exact⟨vs,rfl,hl,h⟩
  obtain⟨vs,rfl,hl,hp⟩:=key
  match vs,hl with
  |[v1,v2],_=>rw[(hp 0 v1 _ rfl rfl).p_inv,(hp 1 v2 _ rfl rfl).p_inv]
 refine⟨_,?_,.fr _ _ (.p _)⟩;rw[execOp,ho]
 simp only[two hvx,two hvy]
 have hg:=run_eqGuard_agg (P:=P) c.w .neq tt x y #[.int .i64 a1,.int .i64 a2] #[.int .i64 b1,.int .i64 b2] hT.hm
 have hfs:=hT.f
 generalize hfl:(P.fieldsOf tt).toList=fs at hfs
 obtain⟨f1,f2,rfl⟩:∃f1 f2,fs=[f1,f2]:=by
  have h2:fs.length=2:=by simpa using congrArg List.length hfs
  match fs,h2 with
  |[f1,f2],_=>exact⟨f1,f2,rfl⟩
 simp only[List.map_cons,List.map_nil,List.cons.injEq,Prod.mk.injEq,and_true] at hfs
 obtain⟨⟨n1,i1,o1⟩,n2,i2,o2⟩:=hfs
 have m1:f1.name≠"_":=by simpa using n1
 have m2:f2.name≠"_":=by simpa using n2
 have p1:=fun w=>W2 (P:=P) i1 (cs := #[.int .i64 a1,.int .i64 a2]) (v:=.int .i64 a1) (by rw[o1];rfl) w
 have p2:=fun w=>W2 (P:=P) i2 (cs := #[.int .i64 a1,.int .i64 a2]) (v:=.int .i64 a2) (by rw[o2];rfl) w
 have r1:=fun w=>W2 (P:=P) i1 (cs := #[.int .i64 b1,.int .i64 b2]) (v:=.int .i64 b1) (by rw[o1];rfl) w
 have r2:=fun w=>W2 (P:=P) i2 (cs := #[.int .i64 b1,.int .i64 b2]) (v:=.int .i64 b2) (by rw[o2];rfl) w
 have he:=run_neq_struct (P:=P) c.w tt #[.int .i64 a1,.int .i64 a2] #[.int .i64 b1,.int .i64 b2]
 rw[run_equalIn_agg _ _ _ _ _ hT.u hT.hp,hfl] at he
 have e1:=fun w=>run_equalIn_int (P:=P) w 9998 f1.type .i64 .i64 a1 b1 (WK i1)
 have e2:=fun w=>run_equalIn_int (P:=P) w 9998 f2.type .i64 .i64 a2 b2 (WK i2)
 cases hc1:(a1==b1)<;>cases hc2:(a2==b2) <;>
  simp[Op.eqFields,m1,m2,p1,p2,r1,r2,e1,e2,hc1,hc2] at he<;>simp[hg,he]
instance tpairTick:Qo2 Tryz.prog 192:=⟨by kernel_rfl,by kernel_rfl,by kernel_rfl,by kernel_rfl⟩
theorem QkE (l:List Int):∀e∈l.map iv1,fzs e=some e:=fun e he=>by
 obtain⟨x,-,rfl⟩:=List.mem_map.1 he
 rfl
def Qf5 (l:List Tk)(k:Nat):Int:=match k with
 |0 => -1
 |k+1=>match l[k]? with
  |some y=>y.1
  |none => -1
theorem WJ {l:List Tk}{k:Nat}{x:Tk}(h:l[k]?=some x):Qf5 l (k+1)=x.1:=by
 show(match l[k]? with|some y=>y.1|none => -1)=x.1
 rw[h]
theorem QnH {last:Int}{t:Tk}(hl : -1≤last):Qeg last t=(!(decide (t.1<0)||decide (t.1 > 63)||decide (t.2<1)||decide (t.2 > 1000000000000000)) && !(decide (0≤last)&&decide (t.1≤last))):=by
 unfold Qeg
 by_cases h1:t.1≤last<;>by_cases h2:t.1<0<;>by_cases h3:0≤last<;>simp[h1,h2,h3]<;>omega
def nums (c:List Tk):List Int:=(List.range 64).map fun(p:Nat)=>QhI c ((p:Nat):Int)
theorem QfM {c:List Tk}:(nums c).length=64:=by simp[nums]
theorem Qhk {c:List Tk}{k:Nat}(h:k<64):(nums c)[k]?=some (QhI c (k:Int)):=by unfold nums;rw[List.getElem?_map,List.getElem?_range h];rfl
def QpP (a b:List Tk):Bool:=(List.range 64).all fun(p:Nat)=>decide (QhI a ((p:Nat):Int)≤QhI b ((p:Nat):Int))
def Wt (a b:List Tk):Bool:=Q2 (-1) a&&Q2 (-1) b&&QpP a b && !QpP b a
theorem Qtm {k:Nat}(h:k<64):(List.range 64)[k]?=some k:=List.getElem?_range h
theorem QuR {a b:List Tk}{k:Nat}(h:∀i,i<k→a[i]?=b[i]?)(hl:a.length=b.length)(hk:a.length≤k):a=b:=by
 apply List.ext_getElem?
 intro i
 by_cases hi:i<k
 ·exact h i hi
 rw[List.getElem?_eq_none (by omega),List.getElem?_eq_none (by omega)]
theorem QxL {x y:Tk}(h:(!(x.1==y.1&&x.2==y.2))=false):x=y:=by
 simp only[Bool.not_eq_false',Bool.and_eq_true,beq_iff_eq] at h
 exact Prod.ext h.1 h.2
theorem Qx6 {x y:Tk}(h:(!(x.1==y.1&&x.2==y.2))=true):x≠y:=fun e=>by subst e;simp at h
theorem Qdm (l:List Tk):FC Tryz.prog 181 [tks l] (bl (Q2 (-1) l)):=by
 refine Qg [2] Tryz.func181 rfl rfl 56 Tryz.ntmps181 (Nat.le_of_ble_eq_true rfl) ?_
 intro E hN;refine Jq 0 rfl (fun hl0=>?_);refine XR ?_;refine Qq (fun x:{k:Nat // k≤l.length∧Q2 (Qf5 l k) (l.drop k)=Q2 (-1) l ∧ -1≤Qf5 l k∧(0<k→0≤Qf5 l k)}=>⟨[(0,tks l),(3,i64 (x.1:Nat))],[],0⟩) (fun x=>l.length-x.1) (⟨0,Nat.zero_le _,rfl,Int.le_refl _,fun h=>absurd h (Nat.lt_irrefl 0)⟩) ?_ ?_
 ·exact Qa rfl (Yw trivial) trivial
 rintro⟨k,hk,hg,hl1,hl2⟩;dsimp only;refine Jl ?_
 refine zq ?_ ?_<;>intro h5
 rotate_left
 ·have hge:(l).length≤k:=by simpa using h5
  refine QK ?_;refine zQ ?_;exact Qr (by rw[←hg,List.drop_of_length_le hge];rfl)
 have hlt:k<(l).length:=by simpa using h5
 obtain⟨x,hx⟩:=Qw hlt
 have hs:=QoB hg hx
 have hsp:=QnH (t:=x) hl1
 refine Jl ?_;refine zP (Qh rfl rfl rfl k rfl _ (Qt hx) rfl) ?_;refine QK ?_
 refine zc 16 ?_ ?_<;>intro h9
 ·refine Qha ?_;refine QK ?_;refine zQ ?_;exact Qr (by rw[hs,hsp];simp_all)
 refine QR ?_;refine uP (X3 h9) (Qh rfl rfl rfl k rfl _ (Qt hx) rfl) ?_;refine QL ?_
 refine zc 24 ?_ ?_<;>intro h13
 ·refine Qf2 ?_;refine zQ ?_;exact Qr (by rw[hs,hsp];simp_all)
 refine QR ?_;refine uP (X3 h13) (Qh rfl rfl rfl k rfl _ (Qt hx) rfl) ?_;refine QL ?_
 refine zc 32 ?_ ?_<;>intro h17
 ·refine JF ?_;refine zQ ?_;exact Qr (by rw[hs,hsp];simp_all)
 refine QR ?_;refine uP (X3 h17) (Qh rfl rfl rfl k rfl _ (Qt hx) rfl) ?_;refine QL ?_
 refine zq ?_ ?_<;>intro h21
 ·refine QI ?_;refine zQ ?_;exact Qr (by rw[hs,hsp];simp_all)
 have h4:x.1≥0∧x.1≤63∧x.2≥1∧x.2≤1000000000000000:=by simp at *;omega
 have h0:0≤x.1:=h4.1
 refine QR ?_;refine zD 15 ?_;refine QI ?_
 refine zd 42 ?_ ?_<;>intro h22
 rotate_left
 ·have hk0:k=0:=by have:=of_decide_eq_false h22;omega
  have hlz:Qf5 l k = -1:=by rw[hk0];rfl
  have hok:Qeg (Qf5 l k) x=true:=by
   rw[hlz] at hsp;rw[hlz,hsp]
   simp
   omega
  refine Qf2 ?_;refine Qc ?_;exact⟨⟨k+1,hlt,by rw[hs,hok,WJ hx];rfl,by rw[WJ hx];omega,fun _=>by rw[WJ hx];exact h0⟩,Qa rfl (X2 ⟨JC,rfl,trivial⟩) trivial,by dsimp only;omega⟩
 have hk0:0<k:=by have:=of_decide_eq_true h22;omega
 obtain⟨y,hy⟩:=Qw (show k-1<l.length by omega)
 have hlast:Qf5 l k=y.1:=by
  have e:k=k-1+1:=by omega
  rw[e,WJ hy]
 have hl3:0≤y.1:=by rw[←hlast];exact hl2 hk0
 refine QR ?_;refine vP (XT h22) (Qh rfl rfl rfl k rfl _ (Qt hx) rfl) ?_;refine QK ?_;refine vP (XT h22) (KV rfl rfl rfl (by omega)) ?_;refine vP (XT h22) (Qh rfl rfl rfl (k-1) (by omega) _ (Qt hy) rfl) ?_;refine QL ?_
 refine zq ?_ ?_<;>intro h30
 ·have hno:Qeg (Qf5 l k) x=false:=by
   rw[hlast] at hsp;rw[hlast,hsp]
   have:=of_decide_eq_true h30
   simp[hl3,this]
  refine QI ?_;refine zQ ?_;exact Qr (by rw[hs,hno];rfl)
 have hok:Qeg (Qf5 l k) x=true:=by
  rw[hlast] at hsp;rw[hlast,hsp]
  have:=of_decide_eq_false h30
  simp[this]
  omega
 refine QL ?_;refine Qc ?_;exact⟨⟨k+1,hlt,by rw[hs,hok,WJ hx];rfl,by rw[WJ hx];omega,fun _=>by rw[WJ hx];exact h0⟩,Qa rfl (X2 ⟨JC,rfl,trivial⟩) trivial,by dsimp only;omega⟩
theorem Qsm (l:List Tk)(q:Int):FC Tryz.prog 238 [tks l,i64 q] (i64 (QhI l q)):=by
 refine Qg [4] Tryz.func238 rfl rfl 27 Tryz.ntmps238 (Nat.le_of_ble_eq_true rfl) ?_
 intro E hN;refine Jq 0 rfl (fun hl0=>?_);refine Jl ?_;refine zP (Qd (Qdm l) rfl rfl rfl) ?_;refine QR ?_
 refine zq ?_ ?_<;>intro h3
 ·have h1:=h3
  refine QI ?_;refine zQ ?_;exact Q1 (by simp_all [QhI])
 have h1:=h3
 refine Xy ?_;refine Qq (fun x:{k:Nat // k≤(l).length∧QeG (l.drop k) q=QeG l q}=>⟨[(0,tks l),(1,i64 q),(5,i64 (x.1:Nat))],[],0⟩) (fun x=>(l).length-x.1) (⟨0,Nat.zero_le _,by simp⟩) ?_ ?_
 ·exact Qa rfl (YG trivial) trivial
 rintro⟨k,hk,hg⟩;dsimp only;refine Jl ?_
 refine zq ?_ ?_<;>intro h8
 rotate_left
 ·have hge:(l).length≤k:=by simpa using h8
  refine QK ?_;refine zQ ?_;exact Q1 (by rw[QhI,if_pos (by simpa using h1),←hg,List.drop_of_length_le hge];rfl)
 have hlt:k<(l).length:=by simpa using h8
 obtain⟨x,hx⟩:=Qw hlt;refine Xy ?_;refine zP (Qh rfl rfl rfl k rfl _ (Qt hx) rfl) ?_;refine QL ?_
 refine zq ?_ ?_<;>intro h12
 ·have h6:=h12
  refine QK ?_;refine zP (Qh rfl rfl rfl k rfl _ (Qt hx) rfl) ?_;refine QI ?_;refine zQ ?_;exact Q1 (by rw[QhI,if_pos (by simpa using h1),←hg,XI hx];simp_all [QeG])
 have h6:=h12
 refine QL ?_;refine Qc ?_;exact⟨⟨k+1,hlt,by rw[←hg,XI hx];simp_all [QeG]⟩,Qa rfl (Yw ⟨JC,rfl,trivial⟩) trivial,by dsimp only;omega⟩
theorem Qox (c:List Tk):FC Tryz.prog 227 [tks c] (ivs (nums c)):=by
 refine Qg [2] Tryz.func227 rfl rfl 16 Tryz.ntmps227 (Nat.le_of_ble_eq_true rfl) ?_
 intro E hN;refine WT ?_;refine QC (QbN rfl 3 2 1 rfl) ?_;refine Qq (fun x:{k:Nat // k≤64}=>⟨[(0,tks c),(3,.own 0 ((nums c).take x.1).length),(4,i64 (x.1:Nat))],[(0,.arr 2 1 (((nums c).take x.1).map iv1))],1⟩) (fun x=>64-x.1) (⟨0,by decide⟩) ?_ ?_
 ·exact Qa rfl (YG trivial) ⟨rfl,rfl,(XM (fun _=>rfl) _),trivial⟩
 rintro⟨k,hk⟩;dsimp only;refine XL ?_
 refine zq ?_ ?_<;>intro h5
 rotate_left
 ·have hge:64≤k:=by have:=of_decide_eq_false h5;omega
  rw[List.take_of_length_le (show(nums c).length≤k by rw[QfM];exact hge)];refine XL ?_;refine QC (JU 2 0 rfl rfl (by simp) (QN (fun _=>rfl) _) (QkE _) rfl) ?_;refine zR ?_
  rfl
 have hlt:k<64:=by have:=of_decide_eq_true h5;omega
 refine Xy ?_;refine zP (Qd (Qsm c (k:Int)) rfl rfl rfl) ?_;refine zP (Q0 rfl rfl rfl rfl (by exact rfl) (by decide) (by decide)) ?_;refine XA hN rfl rfl rfl (by simp) rfl rfl rfl (by simp[Xi,QfM];omega) rfl rfl rfl rfl ?_;refine XL ?_;refine Qc ?_;exact⟨⟨k+1,by omega⟩,Qa rfl (X2 ⟨(cgO (by rw[List.take_add_one,Qhk hlt];simp[Xi])),rfl,JC,rfl,trivial⟩) ⟨(cgA (by rw[List.take_add_one,Qhk hlt];simp[Xi,iv1])),rfl,(XM (fun _=>rfl) _),trivial⟩,by dsimp only;omega⟩
theorem Qm5 (a b:List Tk):FC Tryz.prog 211 [tks a,tks b] (bl (QpP a b)):=by
 refine Qg [4] Tryz.func211 rfl rfl 27 Tryz.ntmps211 (Nat.le_of_ble_eq_true rfl) ?_
 intro E hN;refine Xy ?_;refine zP (Qd (Qox a) rfl rfl rfl) ?_;refine zM ?_;refine zP (Qd (Qox b) rfl rfl rfl) ?_;refine J6 ?_;refine Qq (fun x:{k:Nat // k≤64∧((List.range 64).drop k).all (fun(p:Nat)=>decide (QhI a ((p:Nat):Int)≤QhI b ((p:Nat):Int)))=QpP a b}=>⟨[(5,ivs (nums a)),(6,ivs (nums b)),(7,i64 (x.1:Nat))],[],0⟩) (fun x=>64-x.1) (⟨0,by decide,rfl⟩) ?_ ?_
 ·exact Qa rfl (YG trivial) trivial
 rintro⟨k,hk,hg⟩;dsimp only;refine Jl ?_
 refine zq ?_ ?_<;>intro h9
 rotate_left
 ·have hge:64≤k:=by have:=of_decide_eq_false h9;simp[QfM] at this;omega
  refine QK ?_;refine zQ ?_;exact Qr (Jf hg (by simpa using hge)).symm
 have hlt:k<64:=by have:=of_decide_eq_true h9;simp[QfM] at this;omega
 refine QK ?_;refine zD 8 ?_;refine QR ?_;refine zp (Qh rfl rfl rfl k rfl _ (Qt (Qhk hlt)) rfl) ?_;refine QI ?_;refine zp (Qh rfl rfl rfl k rfl _ (Qt (Qhk hlt)) rfl) ?_;refine QI ?_
 refine zq ?_ ?_<;>intro h14
 ·have h5:=h14
  refine QI ?_;refine zQ ?_;exact Qr (Xe hg (Qtm hlt) (by have:=of_decide_eq_true h5;exact decide_eq_false (by omega))).symm
 have h5:=h14
 refine QL ?_;refine Qc ?_;exact⟨⟨k+1,by omega,XO hg (Qtm hlt) (by have:=of_decide_eq_false h5;exact decide_eq_true (by omega))⟩,Qa rfl (Yw ⟨JC,rfl,trivial⟩) trivial,by dsimp only;omega⟩
theorem Qeq (a b:List Tk):FC Tryz.prog 182 [tks a,tks b] (bl (Wt a b)):=by
 refine Qg [4] Tryz.func182 rfl rfl 22 Tryz.ntmps182 (Nat.le_of_ble_eq_true rfl) ?_
 intro E hN;refine Xy ?_;refine zP (Qd (Qdm a) rfl rfl rfl) ?_;refine zM ?_
 refine zc 7 ?_ ?_<;>intro h3
 rotate_left
 ·refine QgC ?_;refine zQ ?_;exact Qr (by simp_all [Wt])
 refine Yy ?_;refine uP (XT h3) (Qd (Qdm b) rfl rfl rfl) ?_;refine QR ?_
 refine zc 11 ?_ ?_<;>intro h4
 rotate_left
 ·refine X5 ?_;refine zQ ?_;exact Qr (by simp_all [Wt])
 refine QR ?_;refine uP (XT h4) (Qd (Qm5 a b) rfl rfl rfl) ?_;refine QR ?_
 refine zc 16 ?_ ?_<;>intro h5
 ·refine QR ?_;refine uP (XT h5) (Qd (Qm5 b a) rfl rfl rfl) ?_;refine QI ?_;refine zQ ?_;exact Qr (by simp_all [Wt])
 refine XL ?_;refine zQ ?_;exact Qr (by simp_all [Wt])
theorem QqZ (a b:List Tk):FC Tryz.prog 188 [tks a,tks b] (bl (decide (a=b))):=by
 refine Qg [4] Tryz.func188 rfl rfl 26 Tryz.ntmps188 (Nat.le_of_ble_eq_true rfl) ?_
 intro E hN;refine Jq 0 rfl (fun hl0=>?_);refine Qbp ?_
 refine zq ?_ ?_<;>intro h5
 ·have h1:a.length≠b.length:=by intro e;simp[e] at h5
  refine QI ?_;refine zQ ?_;exact Qr (decide_eq_false fun e=>h1 (by rw[e])).symm
 have h1:a.length=b.length:=by have e:=h5;simp at e;omega
 refine Xy ?_;refine Qq (fun x:{k:Nat // k≤(a).length∧∀i,i<k→a[i]?=b[i]?}=>⟨[(0,tks a),(1,tks b),(5,i64 (x.1:Nat))],[],0⟩) (fun x=>(a).length-x.1) (⟨0,Nat.zero_le _,fun _ h=>absurd h (Nat.not_lt_zero _)⟩) ?_ ?_
 ·exact Qa rfl (YG trivial) trivial
 rintro⟨k,hk,hg⟩;dsimp only;refine Jl ?_
 refine zq ?_ ?_<;>intro h10
 rotate_left
 ·have hge:(a).length≤k:=by simpa using h10
  refine QK ?_;refine zQ ?_;exact Qr (decide_eq_true (QuR hg h1 hge)).symm
 have hlt:k<(a).length:=by simpa using h10
 obtain⟨x,hx⟩:=Qw hlt;obtain⟨y,hy⟩:=Qw (show k<b.length by omega);refine QK ?_;refine zD 8 ?_;refine QR ?_;refine zp (Qh rfl rfl rfl k rfl _ (Qt hx) rfl) ?_;refine QI ?_;refine zp (Qh rfl rfl rfl k rfl _ (Qt hy) rfl) ?_;refine zl ?_;refine zP (Qxx rfl rfl rfl rfl) ?_;refine zN ?_
 refine zq ?_ ?_<;>intro h15
 ·have h6:=h15
  refine QI ?_;refine zQ ?_;exact Qr (decide_eq_false fun e=>Qx6 h6 (by rw[e,hy] at hx;cases hx;rfl)).symm
 have h6:=h15
 refine QL ?_;refine Qc ?_
 exact⟨⟨k+1,hlt,fun i hi=>by
  by_cases e:i=k
  ·subst e;rw[hx,hy,QxL h6]
  exact hg i (by omega)⟩,Qa rfl (Yw ⟨JC,rfl,trivial⟩) trivial,by dsimp only;omega⟩
theorem Qjf (s:Nm):FC Tryz.prog 207 [sv s] (bl (XU s)):=by
 refine Qg [2] Tryz.func207 rfl rfl 56 Tryz.ntmps207 (Nat.le_of_ble_eq_true rfl) ?_
 intro E hN;refine X5 ?_
 refine zc 7 ?_ ?_<;>intro h3
 ·have hv:=W1 (s:=s) (.inl (by have:=of_decide_eq_true h3;omega))
  refine QeV ?_;refine zQ ?_;exact Qr hv.symm
 obtain⟨c0,hc0,hh⟩:=Qpk (s:=s) (by have:=of_decide_eq_false h3;omega);refine QL ?_
 refine zc 12 ?_ ?_<;>intro h5
 ·have hv:=W1 (s:=s) (.inr (.inl (by have:=of_decide_eq_true h5;omega)))
  refine WT ?_;refine zQ ?_;exact Qr hv.symm
 have h16:s.length≤16:=by have:=of_decide_eq_false h5;omega
 refine Yy ?_;refine uP (X3 h5) (KG rfl rfl rfl 0 rfl _ hc0) ?_;refine QI ?_
 refine zc 17 ?_ ?_<;>intro h7
 ·have hv:=W1 (s:=s) (.inr (.inr (by rw[hh];have:=of_decide_eq_true h7;rw[decide_eq_false (by omega)];rfl)))
  refine J6 ?_;refine zQ ?_;exact Qr hv.symm
 have h97:97≤(c0.toNat:Int):=by have:=of_decide_eq_false h7;omega
 refine Yy ?_;refine uP (X3 h7) (KG rfl rfl rfl 0 rfl _ hc0) ?_;refine QI ?_
 refine zq ?_ ?_<;>intro h9
 ·have hv:=W1 (s:=s) (.inr (.inr (by rw[hh];have:=of_decide_eq_true h9;rw[decide_eq_false (show ¬(c0.toNat:Int)≤122 by omega),Bool.and_false])))
  refine QI ?_;refine zQ ?_;exact Qr hv.symm
 have hv:XU s=s.all (fun c=>Jb c.toNat):=by
  have:=of_decide_eq_false h9
  rw[XU,hh,decide_eq_true h16,decide_eq_true h97,decide_eq_true (by omega)];rfl
 refine Xy ?_;refine Qq (fun x:{k:Nat // k≤(s).length∧(s.drop k).all (fun c=>Jb c.toNat)=s.all (fun c=>Jb c.toNat)}=>⟨[(0,sv s),(3,i64 (x.1:Nat))],[],0⟩) (fun x=>(s).length-x.1) (⟨0,Nat.zero_le _,by simp⟩) ?_ ?_
 ·exact Qa rfl (Yw trivial) trivial
 rintro⟨k,hk,hg⟩;dsimp only;refine Jl ?_
 refine zq ?_ ?_<;>intro h13
 rotate_left
 ·have hge:(s).length≤k:=by simpa using h13
  refine QK ?_;refine zQ ?_;exact Qr (by rw[hv,Jf hg hge])
 have hlt:k<(s).length:=by simpa using h13
 obtain⟨x,hx⟩:=Qw hlt;refine Xy ?_;refine zP (KG rfl rfl rfl k rfl _ hx) ?_;refine QR ?_
 refine zc 32 ?_ ?_<;>intro h15
 ·refine Jl ?_;refine zP (KG rfl rfl rfl k rfl _ hx) ?_;refine QR ?_
  refine zc 43 ?_ ?_<;>intro h17
  ·refine J6 ?_;refine zP (KG rfl rfl rfl k rfl _ hx) ?_;refine QI ?_
   refine zq ?_ ?_<;>intro h19
   ·refine QI ?_;refine zQ ?_;exact Qr (by rw[hv,Xe hg hx (by first|(simp_all;done)|(simp_all [Jb];done)|(simp_all [Jb];omega))])
   refine QL ?_;refine Qc ?_;exact⟨⟨k+1,hlt,XO hg hx (by first|(simp_all;done)|(simp_all [Jb];done)|(simp_all [Jb];omega))⟩,Qa rfl (X2 ⟨JC,rfl,trivial⟩) trivial,by dsimp only;omega⟩
  refine QR ?_;refine uP (X3 h17) (KG rfl rfl rfl k rfl _ hx) ?_;refine QK ?_
  refine zc 50 ?_ ?_<;>intro h22
  ·refine QR ?_;refine uP (XT h22) (KG rfl rfl rfl k rfl _ hx) ?_;refine QI ?_
   refine zq ?_ ?_<;>intro h24
   ·refine QI ?_;refine zQ ?_;exact Qr (by rw[hv,Xe hg hx (by first|(simp_all;done)|(simp_all [Jb];done)|(simp_all [Jb];omega))])
   refine QL ?_;refine Qc ?_;exact⟨⟨k+1,hlt,XO hg hx (by first|(simp_all;done)|(simp_all [Jb];done)|(simp_all [Jb];omega))⟩,Qa rfl (X2 ⟨JC,rfl,trivial⟩) trivial,by dsimp only;omega⟩
  refine JF ?_;refine Qc ?_;exact⟨⟨k+1,hlt,XO hg hx (by first|(simp_all;done)|(simp_all [Jb];done)|(simp_all [Jb];omega))⟩,Qa rfl (X2 ⟨JC,rfl,trivial⟩) trivial,by dsimp only;omega⟩
 refine QR ?_;refine uP (X3 h15) (KG rfl rfl rfl k rfl _ hx) ?_;refine QI ?_
 refine zc 38 ?_ ?_<;>intro h28
 rotate_left
 ·refine Qha ?_;refine Qc ?_;exact⟨⟨k+1,hlt,XO hg hx (by first|(simp_all;done)|(simp_all [Jb];done)|(simp_all [Jb];omega))⟩,Qa rfl (X2 ⟨JC,rfl,trivial⟩) trivial,by dsimp only;omega⟩
 refine QR ?_;refine uP (XT h28) (KG rfl rfl rfl k rfl _ hx) ?_;refine QR ?_
 refine zc 43 ?_ ?_<;>intro h30
 ·refine QK ?_;refine uP (XT h28) (XK rfl rfl h30 rfl) ?_;refine QK ?_;refine zP (KG rfl rfl rfl k rfl _ hx) ?_;refine QI ?_
  refine zq ?_ ?_<;>intro h32
  ·refine QI ?_;refine zQ ?_;exact Qr (by rw[hv,Xe hg hx (by first|(simp_all;done)|(simp_all [Jb];done)|(simp_all [Jb];omega))])
  refine QL ?_;refine Qc ?_;exact⟨⟨k+1,hlt,XO hg hx (by first|(simp_all;done)|(simp_all [Jb];done)|(simp_all [Jb];omega))⟩,Qa rfl (X2 ⟨JC,rfl,trivial⟩) trivial,by dsimp only;omega⟩
 refine QR ?_;refine uP (X3 h30) (KG rfl rfl rfl k rfl _ hx) ?_;refine Yy ?_;refine uP (XT h28) (XG rfl rfl h30 rfl) ?_;refine QR ?_
 refine zc 50 ?_ ?_<;>intro h35
 ·refine QR ?_;refine uP (XT h35) (KG rfl rfl rfl k rfl _ hx) ?_;refine QI ?_
  refine zq ?_ ?_<;>intro h37
  ·refine QI ?_;refine zQ ?_;exact Qr (by rw[hv,Xe hg hx (by first|(simp_all;done)|(simp_all [Jb];done)|(simp_all [Jb];omega))])
  refine QL ?_;refine Qc ?_;exact⟨⟨k+1,hlt,XO hg hx (by first|(simp_all;done)|(simp_all [Jb];done)|(simp_all [Jb];omega))⟩,Qa rfl (X2 ⟨JC,rfl,trivial⟩) trivial,by dsimp only;omega⟩
 refine JF ?_;refine Qc ?_;exact⟨⟨k+1,hlt,XO hg hx (by first|(simp_all;done)|(simp_all [Jb];done)|(simp_all [Jb];omega))⟩,Qa rfl (X2 ⟨JC,rfl,trivial⟩) trivial,by dsimp only;omega⟩
theorem QkF (l:List Nm)(s:Nm):FC Tryz.prog 208 [Jz l,sv s] (bl (JL l s)):=by
 refine Qg [4] Tryz.func208 rfl rfl 18 Tryz.ntmps208 (Nat.le_of_ble_eq_true rfl) ?_
 intro E hN;refine Jq 0 rfl (fun hl0=>?_);refine XR ?_;refine Qq (fun x:{k:Nat // k≤(l).length∧(l.drop k).any (s == ·)=l.any (s == ·)}=>⟨[(0,Jz l),(1,sv s),(5,i64 (x.1:Nat))],[],0⟩) (fun x=>(l).length-x.1) (⟨0,Nat.zero_le _,by simp⟩) ?_ ?_
 ·exact Qa rfl (YG trivial) trivial
 rintro⟨k,hk,hg⟩;dsimp only;refine Jl ?_
 refine zq ?_ ?_<;>intro h7
 rotate_left
 ·have hge:(l).length≤k:=by simpa using h7
  refine QK ?_;refine zQ ?_;exact Qr (Qhd hg hge).symm
 have hlt:k<(l).length:=by simpa using h7
 obtain⟨x,hx⟩:=Qw hlt;refine Xy ?_;refine zP (Qh rfl rfl rfl k rfl _ (Qt hx) rfl) ?_;refine QK ?_
 refine zq ?_ ?_<;>intro h10
 ·have hxs:x=s:=by simpa using h10
  refine QI ?_;refine zQ ?_;exact Qr (Qhp hg hx (by rw[hxs];simp)).symm
 have hxs:x≠s:=by simpa using h10
 refine QL ?_;refine Qc ?_;exact⟨⟨k+1,hlt,QkK hg hx (beq_eq_false_iff_ne.2 fun e=>hxs e.symm)⟩,Qa rfl (Yw ⟨JC,rfl,trivial⟩) trivial,by dsimp only;omega⟩
theorem Qp6 {l:List Nm}{k:Nat}{x y:Nm}(hk:0<k)(hg:QF (l.drop (k-1))=QF l)(hy:l[k-1]?=some y)(hx:l[k]?=some x):QF l=(Op.bytesLess y x&&QF (l.drop (k+1-1))):=by
 rw[Qet hk hg hy hx,Nat.add_sub_cancel]
def QdB (l:List Nm):Bool:=l.all XU&&QF l
theorem QoK (l:List Nm):FC Tryz.prog 209 [Jz l] (bl (QdB l)):=by
 refine Qg [2] Tryz.func209 rfl rfl 32 Tryz.ntmps209 (Nat.le_of_ble_eq_true rfl) ?_
 intro E hN;refine Jq 0 rfl (fun hl0=>?_);refine XR ?_;refine Qq (fun x:{k:Nat // k≤l.length∧(l.drop k).all XU=l.all XU∧QF (l.drop (k-1))=QF l}=>⟨[(0,Jz l),(3,i64 (x.1:Nat))],[],0⟩) (fun x=>l.length-x.1) (⟨0,Nat.zero_le _,rfl,rfl⟩) ?_ ?_
 ·exact Qa rfl (Yw trivial) trivial
 rintro⟨k,hk,hg,hg2⟩;dsimp only;refine Jl ?_
 refine zq ?_ ?_<;>intro h5
 rotate_left
 ·have hge:(l).length≤k:=by simpa using h5
  refine QK ?_;refine zQ ?_;exact Qr (by rw[QdB,Jf hg hge,Qfj hg2 hge];rfl)
 have hlt:k<(l).length:=by simpa using h5
 obtain⟨x,hx⟩:=Qw hlt;refine QK ?_;refine zD 21 ?_;refine QR ?_;refine zp (Qh rfl rfl rfl k rfl _ (Qt hx) rfl) ?_;refine zl ?_;refine zp (Qd (Qjf x) rfl rfl rfl) ?_;refine QR ?_
 refine zd 16 ?_ ?_<;>intro h8
 ·have hno:QdB l=false:=by rw[QdB,Xe hg hx (n1 h8)];rfl
  refine Qf2 ?_;refine zQ ?_;exact Qr hno.symm
 have hv:XU x=true:=n0 h8
 refine QI ?_
 refine zd 19 ?_ ?_<;>intro h9
 rotate_left
 ·have hk0:k=0:=by have:=of_decide_eq_false h9;omega
  have hnx:QF (l.drop (k+1-1))=QF l:=by rw[hk0];rfl
  refine XR ?_;refine vP (X3 (m1 (n0 h8))) (XG rfl rfl h9 rfl) ?_;refine Jl ?_;refine Qc ?_;exact⟨⟨k+1,hlt,XO hg hx hv,hnx⟩,Qa rfl (X2 ⟨JC,rfl,trivial⟩) trivial,by dsimp only;omega⟩
 have hk0:0<k:=by have:=of_decide_eq_true h9;omega
 obtain⟨y,hy⟩:=Qw (show k-1<l.length by omega)
 have hrs:=Qp6 hk0 hg2 hy hx
 refine QR ?_;refine vP (XT h9) (KV rfl rfl rfl (by omega)) ?_;refine vP (XT h9) (Qh rfl rfl rfl (k-1) (by omega) _ (Qt hy) rfl) ?_;refine QI ?_;refine vP (XT h9) (Qh rfl rfl rfl k rfl _ (Qt hx) rfl) ?_;refine QR ?_;refine vP (X3 (m1 (n0 h8))) (XK rfl rfl h9 rfl) ?_;refine QR ?_
 refine zq ?_ ?_<;>intro h15
 ·have hno:QdB l=false:=by rw[QdB,hrs];simp_all
  refine QI ?_;refine zQ ?_;exact Qr hno.symm
 have hnx:QF (l.drop (k+1-1))=QF l:=by rw[hrs];simp_all
 refine QL ?_;refine Qc ?_;exact⟨⟨k+1,hlt,XO hg hx hv,hnx⟩,Qa rfl (X2 ⟨JC,rfl,trivial⟩) trivial,by dsimp only;omega⟩
theorem Qql (l:Qv)(ih:∀q∈l.ps,FC Tryz.prog 178 [.agg (Q7 q)] (bl (chainB q))):FC Tryz.prog 178 [.agg (Q7 l)] (bl (chainB l)):=by
 refine Qg [2] Tryz.func178 rfl rfl 29 Tryz.ntmps178 (Nat.le_of_ble_eq_true rfl) ?_
 intro E hN;refine JF ?_;refine JI (⟨[(1,.ptr 0 0),(4,i64 l.k),(5,bl (l.k==1||l.k==2||l.k==3))],[(0,.var 26 (Q7 l))],1⟩) ?_ ?_
 ·refine QL ?_
  refine zq ?_ ?_<;>intro h5
  ·refine QM ?_;exact Qa rfl (Yw ⟨(KM (by simp_all)),rfl,trivial⟩) ⟨rfl,rfl,rfl,trivial⟩
  refine QL ?_
  refine zq ?_ ?_<;>intro h6
  ·refine QM ?_;exact Qa rfl (Yw ⟨(KM (by simp_all)),rfl,trivial⟩) ⟨rfl,rfl,rfl,trivial⟩
  refine QI ?_;refine Qc ?_;exact Qa rfl (Yw ⟨(KM (by simp_all)),rfl,trivial⟩) ⟨rfl,rfl,rfl,trivial⟩
 refine zq ?_ ?_<;>intro h10
 ·have h123:=h10
  refine QI ?_;refine zQ ?_;exact Qr (Qfu h123).symm
 have h123:(l.k==1||l.k==2||l.k==3)=false:=h10
 refine QL ?_
 refine zq ?_ ?_<;>intro h11
 rotate_left
 ·have h7:=h11
  refine QK ?_;refine zQ ?_
  exact Qr (by
   simp only[Bool.or_eq_false_iff] at h123
   exact(YF h123.1.1 h123.1.2 h123.2 (.inl h7)).symm)
 have h7:=h11
 refine Xy ?_
 refine zc 15 ?_ ?_<;>intro h15
 rotate_left
 ·have h72:chainB l=false:=by
   have e:=h15
   simp only[Bool.or_eq_false_iff] at h123
   exact YF h123.1.1 h123.1.2 h123.2 (.inr (by intro e2;simp[e2] at e))
  refine WT ?_;refine zQ ?_;exact Qr (by first|exact h72.symm|(rw[h72];simp_all))
 obtain⟨a,b,hps⟩:∃a b,l.ps=[a,b]:=by
  have h2:l.ps.length=2:=by have e:=h15;simp at e;omega
  match l.ps,h2 with
  |[a,b],_=>exact⟨a,b,rfl⟩
 have ha:l.ps[0]?=some a:=by rw[hps];rfl
 have hb:l.ps[1]?=some b:=by rw[hps];rfl
 have h72:=Qd7 h7 hps
 refine QR ?_;refine uP (XT h15) (Qh rfl rfl rfl 0 rfl _ (X9 ha) rfl) ?_;refine Yy ?_;refine uP (XT h15) (Qd (ih a (List.mem_of_getElem? ha)) rfl rfl rfl) ?_;refine QR ?_
 refine zc 22 ?_ ?_<;>intro h20
 ·refine QR ?_;refine uP (XT h20) (Qh rfl rfl rfl 1 rfl _ (X9 hb) rfl) ?_;refine Yy ?_;refine uP (XT h20) (Qd (ih b (List.mem_of_getElem? hb)) rfl rfl rfl) ?_;refine QR ?_;refine zQ ?_;exact Qr (by first|exact h72.symm|(rw[h72];simp_all))
 refine Xy ?_;refine zQ ?_;exact Qr (by first|exact h72.symm|(rw[h72];simp_all))
theorem Qe0 (l:Qv):FC Tryz.prog 178 [.agg (Q7 l)] (bl (chainB l)):=Qql l (fun q _=>Qe0 q)
termination_by l
decreasing_by exact Qv.sizeOf_ps ‹_›
end Go.Proofs.YtnkkokmmeplbgaaGreat
