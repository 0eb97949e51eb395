/-
  Contracts: names.
-/
import Derived.Lib.Small
import Derived.Shelf.Small.Strs
import Derived.Test.YtnkkokmmeplbgaaGreatRows
import Derived.Shelf.SlSortCmp.WholeK
import Derived.Ground.SlsfProg
import Derived.Shelf.Sort.Plain
import Derived.Shelf.Slices.In.SortNone
import Derived.Test.YtnkkokmmeplbgaaGreatA4
import Derived.Test.YtnkkokmmeplbgaaGreatTAB
namespace Go.Proofs.YtnkkokmmeplbgaaGreat
open Go.Shelf
def Qvf:Go.Shelf.Ren:=⟨fun|213=>223|265=>236|n=>n,fun|9=>9|3=>3|n=>n,fun|n=>n⟩
theorem QmO:Go.Proofs.Lays.n213 Tryz.prog Qvf:={
 mixed:=by kernel_rfl
 f213:=Tryz.func223.trans (congrArg some (by kernel_rfl))
 f265:=Tryz.func236.trans (congrArg some (by kernel_rfl))
 t3:=Tryz.underlying3
 a3:=Tryz.isAgg3
 z3:=Tryz.sizeOf3
 v3:=Tryz.zeroValue3
 t9:=Tryz.underlying9
 a9:=Tryz.isAgg9
 z9:=Tryz.sizeOf9
 v9:=Tryz.zeroValue9 }
open Go.RowKit in
theorem QfK (a b:ByteArray)(w:World):
  Calls Tryz.prog 223 #[.string a,.string b] w fun e w'=>e=.returned (.int .i64 (Lib.compareBytes a.data.toList b.data.toList))∧w'=w:=Any.bytealg_CompareString QmO a b w
open Go.Shelf
def QhR:Go.Shelf.Ren:=⟨fun|6=>220|15=>235|14=>234|28=>251|29=>252|20=>243|21=>244|22=>245|23=>246|24=>247|25=>248|26=>249|27=>250|46=>256|47=>257|48=>258|49=>259|50=>260|57=>269|n=>n,fun|22=>28|24=>149|25=>157|3=>3|39=>235|0=>0|53=>253|55=>255|4=>4|46=>247|45=>246|50=>240|5=>5|9=>9|66=>258|70=>262|76=>269|77=>270|n=>n,fun|n=>n⟩
theorem Qn6:Go.Proofs.SlLaysF0.n6 Tryz.prog QhR:={
 mixed:=by kernel_rfl
 f6:=⟨Tryz.f220.name,by decide,Tryz.func220.trans (congrArg some (by kernel_rfl))⟩
 f14:=⟨Tryz.f234.name,by decide,Tryz.func234.trans (congrArg some (by kernel_rfl))⟩
 f15:=Tryz.func235.trans (congrArg some (by kernel_rfl))
 f20:=⟨Tryz.f243.name,by decide,Tryz.func243.trans (congrArg some (by kernel_rfl))⟩
 f21:=⟨Tryz.f244.name,by decide,Tryz.func244.trans (congrArg some (by kernel_rfl))⟩
 f22:=⟨Tryz.f245.name,by decide,Tryz.func245.trans (congrArg some (by kernel_rfl))⟩
 f23:=⟨Tryz.f246.name,by decide,Tryz.func246.trans (congrArg some (by kernel_rfl))⟩
 f24:=⟨Tryz.f247.name,by decide,Tryz.func247.trans (congrArg some (by kernel_rfl))⟩
 f25:=⟨Tryz.f248.name,by decide,Tryz.func248.trans (congrArg some (by kernel_rfl))⟩
 f26:=⟨Tryz.f249.name,by decide,Tryz.func249.trans (congrArg some (by kernel_rfl))⟩
 f27:=⟨Tryz.f250.name,by decide,Tryz.func250.trans (congrArg some (by kernel_rfl))⟩
 f28:=Tryz.func251.trans (congrArg some (by kernel_rfl))
 f29:=Tryz.func252.trans (congrArg some (by kernel_rfl))
 f46:=⟨Tryz.f256.name,by decide,Tryz.func256.trans (congrArg some (by kernel_rfl))⟩
 f47:=Tryz.func257.trans (congrArg some (by kernel_rfl))
 f48:=Tryz.func258.trans (congrArg some (by kernel_rfl))
 f49:=⟨Tryz.f259.name,by decide,Tryz.func259.trans (congrArg some (by kernel_rfl))⟩
 f50:=⟨Tryz.f260.name,by decide,Tryz.func260.trans (congrArg some (by kernel_rfl))⟩
 f57:=⟨Tryz.f269.name,by decide,Tryz.func269.trans (congrArg some (by kernel_rfl))⟩
 t0:=Tryz.underlying0
 a0:=Tryz.isAgg0
 z0:=Tryz.sizeOf0
 v0:=Tryz.zeroValue0
 t3:=Tryz.underlying3
 a3:=Tryz.isAgg3
 z3:=Tryz.sizeOf3
 v3:=Tryz.zeroValue3
 t4:=Tryz.underlying4
 a4:=Tryz.isAgg4
 z4:=Tryz.sizeOf4
 v4:=Tryz.zeroValue4
 t5:=Tryz.underlying5
 a5:=Tryz.isAgg5
 z5:=Tryz.sizeOf5
 v5:=Tryz.zeroValue5
 t9:=Tryz.underlying9
 a9:=Tryz.isAgg9
 z9:=Tryz.sizeOf9
 v9:=Tryz.zeroValue9
 t22:=Tryz.underlying28
 a22:=Tryz.isAgg28
 z22:=Tryz.sizeOf28
 v22:=Tryz.zeroValue28
 t25:=Tryz.underlying157
 a25:=Tryz.isAgg157
 z25:=Tryz.sizeOf157
 v25:=Tryz.zeroValue157
 t39:=Tryz.underlying235
 a39:=Tryz.isAgg235
 z39:=Tryz.sizeOf235
 v39:=Tryz.zeroValue235
 t45:=Tryz.underlying246
 a45:=Tryz.isAgg246
 z45:=Tryz.sizeOf246
 v45:=Tryz.zeroValue246
 t46:=Tryz.underlying247
 a46:=Tryz.isAgg247
 z46:=Tryz.sizeOf247
 v46:=Tryz.zeroValue247
 t50:=Tryz.underlying240
 a50:=Tryz.isAgg240
 z50:=Tryz.sizeOf240
 v50:=Tryz.zeroValue240
 t53:=Tryz.underlying253
 a53:=Tryz.isAgg253
 z53:=Tryz.sizeOf253
 v53:=Tryz.zeroValue253
 t55:=Tryz.underlying255
 a55:=Tryz.isAgg255
 z55:=Tryz.sizeOf255
 v55:=Tryz.zeroValue255
 t66:=Tryz.underlying258
 a66:=Tryz.isAgg258
 z66:=Tryz.sizeOf258
 v66:=Tryz.zeroValue258
 t70:=Tryz.underlying262
 a70:=Tryz.isAgg262
 z70:=Tryz.sizeOf262
 v70:=Tryz.zeroValue262
 t76:=Tryz.underlying269
 a76:=Tryz.isAgg269
 z76:=Tryz.sizeOf269
 v76:=Tryz.zeroValue269
 t77:=Tryz.underlying270
 a77:=Tryz.isAgg270
 z77:=Tryz.sizeOf270
 v77:=Tryz.zeroValue270 }
open Go.Shelf
def QiT:Go.Shelf.Ren:=⟨fun|190=>239|125=>235|258=>253|128=>251|129=>252|302=>261|303=>262|304=>263|305=>264|306=>265|307=>266|308=>254|309=>267|310=>268|333=>270|329=>257|330=>258|334=>271|335=>272|336=>228|344=>273|n=>n,fun|31=>22|9=>9|3=>3|46=>235|0=>0|51=>253|53=>255|4=>4|183=>247|182=>246|131=>240|5=>5|218=>258|222=>262|228=>269|229=>270|n=>n,fun|n=>n⟩
theorem Qi0:Go.Proofs.Lays.n190 Tryz.prog QiT:={
 mixed:=by kernel_rfl
 f125:=Tryz.func235.trans (congrArg some (by kernel_rfl))
 f128:=Tryz.func251.trans (congrArg some (by kernel_rfl))
 f129:=Tryz.func252.trans (congrArg some (by kernel_rfl))
 f190:=Tryz.func239.trans (congrArg some (by kernel_rfl))
 f258:=Tryz.func253.trans (congrArg some (by kernel_rfl))
 f302:=Tryz.func261.trans (congrArg some (by kernel_rfl))
 f303:=Tryz.func262.trans (congrArg some (by kernel_rfl))
 f304:=Tryz.func263.trans (congrArg some (by kernel_rfl))
 f305:=Tryz.func264.trans (congrArg some (by kernel_rfl))
 f306:=Tryz.func265.trans (congrArg some (by kernel_rfl))
 f307:=Tryz.func266.trans (congrArg some (by kernel_rfl))
 f308:=Tryz.func254.trans (congrArg some (by kernel_rfl))
 f309:=Tryz.func267.trans (congrArg some (by kernel_rfl))
 f310:=Tryz.func268.trans (congrArg some (by kernel_rfl))
 f329:=Tryz.func257.trans (congrArg some (by kernel_rfl))
 f330:=Tryz.func258.trans (congrArg some (by kernel_rfl))
 f333:=Tryz.func270.trans (congrArg some (by kernel_rfl))
 f334:=Tryz.func271.trans (congrArg some (by kernel_rfl))
 f335:=Tryz.func272.trans (congrArg some (by kernel_rfl))
 f336:=Tryz.func228.trans (congrArg some (by kernel_rfl))
 f344:=Tryz.func273.trans (congrArg some (by kernel_rfl))
 t0:=Tryz.underlying0
 a0:=Tryz.isAgg0
 z0:=Tryz.sizeOf0
 v0:=Tryz.zeroValue0
 t3:=Tryz.underlying3
 a3:=Tryz.isAgg3
 z3:=Tryz.sizeOf3
 v3:=Tryz.zeroValue3
 t4:=Tryz.underlying4
 a4:=Tryz.isAgg4
 z4:=Tryz.sizeOf4
 v4:=Tryz.zeroValue4
 t5:=Tryz.underlying5
 a5:=Tryz.isAgg5
 z5:=Tryz.sizeOf5
 v5:=Tryz.zeroValue5
 t9:=Tryz.underlying9
 a9:=Tryz.isAgg9
 z9:=Tryz.sizeOf9
 v9:=Tryz.zeroValue9
 t31:=Tryz.underlying22
 a31:=Tryz.isAgg22
 z31:=Tryz.sizeOf22
 v31:=Tryz.zeroValue22
 t46:=Tryz.underlying235
 a46:=Tryz.isAgg235
 z46:=Tryz.sizeOf235
 v46:=Tryz.zeroValue235
 t51:=Tryz.underlying253
 a51:=Tryz.isAgg253
 z51:=Tryz.sizeOf253
 v51:=Tryz.zeroValue253
 t53:=Tryz.underlying255
 a53:=Tryz.isAgg255
 z53:=Tryz.sizeOf255
 v53:=Tryz.zeroValue255
 t131:=Tryz.underlying240
 a131:=Tryz.isAgg240
 z131:=Tryz.sizeOf240
 v131:=Tryz.zeroValue240
 t182:=Tryz.underlying246
 a182:=Tryz.isAgg246
 z182:=Tryz.sizeOf246
 v182:=Tryz.zeroValue246
 t183:=Tryz.underlying247
 a183:=Tryz.isAgg247
 z183:=Tryz.sizeOf247
 v183:=Tryz.zeroValue247
 t218:=Tryz.underlying258
 a218:=Tryz.isAgg258
 z218:=Tryz.sizeOf258
 v218:=Tryz.zeroValue258
 t222:=Tryz.underlying262
 a222:=Tryz.isAgg262
 z222:=Tryz.sizeOf262
 v222:=Tryz.zeroValue262
 t228:=Tryz.underlying269
 a228:=Tryz.isAgg269
 z228:=Tryz.sizeOf269
 v228:=Tryz.zeroValue269
 t229:=Tryz.underlying270
 a229:=Tryz.isAgg270
 z229:=Tryz.sizeOf270
 v229:=Tryz.zeroValue270 }
open Go.Sort Go.RowKit in
open Go.RowKit Go.Sort in
theorem QtS:QsZ Tryz.prog 239:=fun blk cap ss w hH hblk hsz=>Any.slices_Sort_string Qi0 blk 0 cap ss w hH hblk hsz
theorem Qqo:Qm9 Tryz.prog 239:=fun p cap w=>Any.slices_Sort_string_none Qi0 p cap w
open Go.Shelf
end Go.Proofs.YtnkkokmmeplbgaaGreat
namespace Go.Proofs.YtnkkokmmeplbgaaGreat
set_option maxRecDepth 100000
set_option maxHeartbeats 1000000
open Go.RowKit
def Jb (c:Int):Bool:=(decide (97≤c)&&decide (c≤122))||(decide (48≤c)&&decide (c≤57))||c==45
def Qpg:Nm→Bool
 |c::_=>decide (97≤(c.toNat:Int))&&decide ((c.toNat:Int)≤122)
 |[]=>false
def XU (s:Nm):Bool:=decide (s.length≤16)&&Qpg s&&s.all fun c=>Jb c.toNat
def QF:List Nm→Bool
 |a::b::r=>Op.bytesLess a b&&QF (b::r)
 |_=>true
theorem QlV (c:Int):FC Tryz.prog 202 [.p (.int .u8 c)] (bl (Jb c)):=by
 refine Qg [2] Tryz.func202 rfl rfl 21 Tryz.ntmps202 (Nat.le_of_ble_eq_true rfl) ?_
 intro E hN;refine J6 ?_
 refine zc 5 ?_ ?_<;>intro h2
 rotate_left
 ·refine Xy ?_
  refine zc 12 ?_ ?_<;>intro h8
  ·refine QL ?_
   refine zc 17 ?_ ?_<;>intro h9
   ·refine QK ?_;refine zQ ?_
    simp[Jb, *]
   refine QK ?_;refine zQ ?_
   simp[Jb, *]
  refine J6 ?_;refine zQ ?_
  simp[Jb, *]
 refine QK ?_
 refine zc 9 ?_ ?_<;>intro h3
 ·refine JF ?_;refine zQ ?_
  simp[Jb, *]
 refine QI ?_
 refine zc 12 ?_ ?_<;>intro h4
 ·refine QR ?_;refine uP (X3 h3) (XK rfl rfl h4 rfl) ?_;refine QR ?_
  refine zc 17 ?_ ?_<;>intro h5
  ·refine QK ?_;refine zQ ?_
   simp[Jb, *]
  refine QK ?_;refine zQ ?_
  simp[Jb, *]
 refine QR ?_;refine uP (X3 h3) (XG rfl rfl h4 rfl) ?_;refine XL ?_;refine zQ ?_
 simp[Jb, *]
theorem QfR (s:Nm):FC Tryz.prog 171 [sv s] (bl (XU s)):=by
 refine Qg [2] Tryz.func171 rfl rfl 33 Tryz.ntmps171 (Nat.le_of_ble_eq_true rfl) ?_
 intro E hN;refine X5 ?_
 refine zc 7 ?_ ?_<;>intro h3
 ·refine QeV ?_;refine zQ ?_;exact Qr (by first|(simp_all [XU];done)|(simp_all [XU];intros;omega)|(have e:s=[]:=(by simp_all);subst e;rfl))
 obtain⟨c0,hc0,hh⟩:∃c,s[0]?=some c∧Qpg s=(decide (97≤(c.toNat:Int))&&decide ((c.toNat:Int)≤122)):=by
  cases s with
  |nil=>simp at h3
  |cons c r=>exact⟨c,rfl,rfl⟩
 refine QL ?_
 refine zc 12 ?_ ?_<;>intro h5
 ·refine WT ?_;refine zQ ?_;exact Qr (by first|(simp_all [XU];done)|(simp_all [XU];intros;omega)|(have e:s=[]:=(by simp_all);subst e;rfl))
 have h16:(s.length:Int)≤16:=by simpa using h5
 refine Yy ?_;refine uP (X3 h5) (KG rfl rfl rfl 0 rfl _ hc0) ?_;refine QI ?_
 refine zc 17 ?_ ?_<;>intro h7
 ·refine J6 ?_;refine zQ ?_;exact Qr (by first|(simp_all [XU];done)|(simp_all [XU];intros;omega)|(have e:s=[]:=(by simp_all);subst e;rfl))
 refine Yy ?_;refine uP (X3 h7) (KG rfl rfl rfl 0 rfl _ hc0) ?_;refine QI ?_
 refine zq ?_ ?_<;>intro h9
 ·refine QI ?_;refine zQ ?_;exact Qr (by first|(simp_all [XU];done)|(simp_all [XU];intros;omega)|(have e:s=[]:=(by simp_all);subst e;rfl))
 refine J6 ?_;refine Qq (fun x:{k:Nat // k≤(s).length∧(s.drop k).all (fun c=>Jb c.toNat)=s.all (fun c=>Jb c.toNat)}=>⟨[(0,sv s),(23,i64 s.length),(24,i64 (x.1:Nat))],[],0⟩) (fun x=>(s).length-x.1) (⟨0,Nat.zero_le _,by simp⟩) ?_ ?_
 ·exact Qa rfl (YG trivial) trivial
 rintro⟨k,hk,hg⟩;dsimp only;refine QL ?_
 refine zq ?_ ?_<;>intro h13
 rotate_left
 ·have hge:(s).length≤k:=by simpa using h13
  refine QK ?_;refine zQ ?_;exact Qr (by rw[XU,Jf hg hge,hh];simp_all;omega)
 have hlt:k<(s).length:=by simpa using h13
 obtain⟨x,hx⟩:=Qw hlt;refine JF ?_;refine zP (KG rfl rfl rfl _ rfl _ (by assumption)) ?_;refine zP (Qd (QlV _) rfl rfl rfl) ?_;refine QR ?_
 refine zq ?_ ?_<;>intro h15
 ·refine QI ?_;refine zQ ?_;exact Qr (by rw[XU,Xe hg hx (by simp_all)];simp)
 refine QK ?_;refine Qc ?_;exact⟨⟨k+1,hlt,XO hg hx (by simp_all)⟩,Qa rfl (Yw ⟨JC,rfl,trivial⟩) trivial,by dsimp only;omega⟩
theorem Qet {l:List Nm}{k:Nat}{a b:Nm}(hk:1≤k)(hg:QF (l.drop (k-1))=QF l)(ha:l[k-1]?=some a)(hb:l[k]?=some b):QF l=(Op.bytesLess a b&&QF (l.drop k)):=by
 rw[←hg,XI ha,show k-1+1=k by omega,XI hb];rfl
theorem Qfj {l:List Nm}{k:Nat}(hg:QF (l.drop (k-1))=QF l)(h:l.length≤k):QF l=true:=by
 rw[←hg]
 have:(l.drop (k-1)).length≤1:=by simp;omega
 match h2:l.drop (k-1),this with
 |[],_=>rfl
 |[_],_=>rfl
 |_::_::_,h=>simp at h
def XN (s:Nm):List Nm→Nat→Int
 |[],_ => -1
 |x::l,i=>if s==x then(i:Int) else XN s l (i+1)
def JL (l:List Nm)(s:Nm):Bool:=l.any (s == ·)
theorem Qer (s:Nm):∀(l:List Nm) (i:Nat),decide (XN s l i≥0)=JL l s
 |[],i=>by simp[XN,JL]
 |x::l,i=>by
  unfold XN JL
  by_cases h:(s==x)=true
  ·rw[if_pos h,List.any_cons,h];simp
  rw[if_neg h,List.any_cons,Qer s l (i+1)];simp[JL,h]
def Yu (a b:List Nm):Bool:=a.all (JL b)
theorem Qbv (l:List Nm):FC Tryz.prog 170 [Jz l] (bl (QF l)):=by
 refine Qg [2] Tryz.func170 rfl rfl 20 Tryz.ntmps170 (Nat.le_of_ble_eq_true rfl) ?_
 intro E hN;refine Jq 0 rfl (fun hl0=>?_);refine XR ?_;refine Qq (fun x:{k:Nat // 1≤k∧QF (l.drop (k-1))=QF l}=>⟨[(0,Jz l),(3,i64 (x.1:Nat))],[],0⟩) (fun x=>l.length-x.1) (⟨1,Nat.le_refl _,rfl⟩) ?_ ?_
 ·exact Qa rfl (Yw trivial) trivial
 ·rintro⟨k,hk,hg⟩
  dsimp only;refine Jl ?_
  refine zq ?_ ?_<;>intro h4
  rotate_left
  ·have hge:l.length≤k:=by simpa using h4
   refine QK ?_;refine zQ ?_;exact Qr (Qfj hg hge).symm
  ·have hlt:k<l.length:=by simpa using h4
   obtain⟨x,hx⟩:=Qw hlt;obtain⟨y,hy⟩:=Qw (show k-1<l.length by omega)
   have hs:=Qet hk hg hy hx
   refine QK ?_;refine zD 9 ?_;refine QR ?_;refine zp (KV rfl rfl rfl (by omega)) ?_;refine zp (Qh rfl rfl rfl (k-1) (by omega) _ (Qt hy) rfl) ?_;refine QI ?_;refine zp (Qh rfl rfl rfl k rfl _ (Qt hx) rfl) ?_;refine QI ?_
   refine zq ?_ ?_<;>intro h10
   ·refine QI ?_;refine zQ ?_;exact Qr (by rw[hs];simp_all)
   ·have hn:QF (l.drop (k+1-1))=QF l:=by
     rw[hs,Nat.add_sub_cancel];simp_all
    refine QL ?_;refine Qc ?_
    
    exact⟨⟨k+1,by omega,hn⟩,Qa rfl (X2 ⟨JC,rfl,trivial⟩) trivial,by dsimp only;omega⟩
theorem Qfr (l:List Nm)(s:Nm):FC Tryz.prog 163 [Jz l,sv s] (i64 (XN s l 0)):=by
 refine Qg [4] Tryz.func163 rfl rfl 19 Tryz.ntmps163 (Nat.le_of_ble_eq_true rfl) ?_
 intro E hN;refine Jq 0 rfl (fun hl0=>?_);refine JF ?_;refine Qq (fun x:{k:Nat // k≤(l).length∧XN s (l.drop k) k=XN s l 0}=>⟨[(0,Jz l),(1,sv s),(7,i64 l.length),(8,i64 (x.1:Nat))],[],0⟩) (fun x=>(l).length-x.1) (⟨0,Nat.zero_le _,by simp⟩) ?_ ?_
 ·exact Qa rfl (Yw ⟨(Y5 (by simp)),rfl,(X2 trivial)⟩) trivial
 rintro⟨k,hk,hg⟩;dsimp only;refine QL ?_
 refine zq ?_ ?_<;>intro h6
 rotate_left
 ·have hge:(l).length≤k:=by simpa using h6
  refine QK ?_;refine zQ ?_;exact Q1 (by rw[←hg,List.drop_of_length_le hge];rfl)
 have hlt:k<(l).length:=by simpa using h6
 obtain⟨x,hx⟩:=Qw hlt
 have hs:XN s l 0=if s==x then(k:Int) else XN s (l.drop (k+1)) (k+1):=by rw[←hg,XI hx];rfl
 refine Qbp ?_;refine zP (Qh rfl rfl rfl k rfl _ (Qt hx) rfl) ?_;refine QI ?_
 refine zq ?_ ?_<;>intro h9
 ·refine QK ?_;refine zQ ?_;exact Q1 (by rw[hs,if_pos (by simp_all)])
 have hn:XN s (l.drop (k+1)) (k+1)=XN s l 0:=by rw[hs,if_neg (by simp_all)]
 refine QK ?_;refine Qc ?_;exact⟨⟨k+1,hlt,hn⟩,Qa rfl (YG ⟨JC,rfl,trivial⟩) trivial,by dsimp only;omega⟩
theorem QgL (l:List Nm)(s:Nm):FC Tryz.prog 192 [Jz l,sv s] (bl (JL l s)):=by
 refine Qg [4] Tryz.func192 rfl rfl 9 Tryz.ntmps192 (Nat.le_of_ble_eq_true rfl) ?_
 intro E hN;refine Jl ?_;refine zP (Qd (Qfr l s) rfl rfl rfl) ?_;refine QR ?_;refine zQ ?_;exact Qr (Qer s l 0)
theorem Qkl (l:List Nm)(s:Nm):FC Tryz.prog 172 [Jz l,sv s] (bl (JL l s)):=by
 refine Qg [4] Tryz.func172 rfl rfl 8 Tryz.ntmps172 (Nat.le_of_ble_eq_true rfl) ?_
 intro E hN;refine Jl ?_;refine zP (Qd (QgL l s) rfl rfl rfl) ?_;refine zS ?_;refine zQ ?_
 rfl
theorem Qem (a b:List Nm):FC Tryz.prog 162 [Jz a,Jz b] (bl (Yu a b)):=by
 refine Qg [4] Tryz.func162 rfl rfl 18 Tryz.ntmps162 (Nat.le_of_ble_eq_true rfl) ?_
 intro E hN;refine Jq 0 rfl (fun hl0=>?_);refine JF ?_;refine Qq (fun x:{k:Nat // k≤(a).length∧(a.drop k).all (JL b)=a.all (JL b)}=>⟨[(1,Jz b),(7,Jz a),(8,i64 a.length),(9,i64 (x.1:Nat))],[],0⟩) (fun x=>(a).length-x.1) (⟨0,Nat.zero_le _,by simp⟩) ?_ ?_
 ·exact Qa rfl (Yw ⟨(Y5 (by simp)),rfl,(X2 trivial)⟩) trivial
 rintro⟨k,hk,hg⟩;dsimp only;refine QL ?_
 refine zq ?_ ?_<;>intro h7
 rotate_left
 ·have hge:(a).length≤k:=by simpa using h7
  refine QK ?_;refine zQ ?_;exact Qr (Jf hg hge).symm
 have hlt:k<(a).length:=by simpa using h7
 obtain⟨x,hx⟩:=Qw hlt;refine QL ?_;refine zP (Qh rfl rfl rfl k rfl _ (Qt hx) rfl) ?_;refine Xy ?_;refine zP (Qd (Qkl b _) rfl rfl rfl) ?_;refine QR ?_
 refine zq ?_ ?_<;>intro h10
 ·refine QI ?_;refine zQ ?_;exact Qr (Xe hg hx (by simp_all)).symm
 refine QK ?_;refine Qc ?_;exact⟨⟨k+1,hlt,XO hg hx (by simp_all)⟩,Qa rfl (YG ⟨JC,rfl,trivial⟩) trivial,by dsimp only;omega⟩
end Go.Proofs.YtnkkokmmeplbgaaGreat
