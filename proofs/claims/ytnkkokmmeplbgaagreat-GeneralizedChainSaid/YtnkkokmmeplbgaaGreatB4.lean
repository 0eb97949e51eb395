/-
  Contracts: comparisons of numbers, strings, ticks, entries, 
-/
import Derived.Test.YtnkkokmmeplbgaaGreatB3
import Derived.Test.YtnkkokmmeplbgaaGreatA3
import Derived.Test.YtnkkokmmeplbgaaGreatB1
import Derived.Sort.Statements
namespace Go.Proofs.YtnkkokmmeplbgaaGreat
set_option maxRecDepth 100000
set_option maxHeartbeats 1000000
open Go.RowKit
def XD {α:Type}(c:α→α→Int):List α→List α→Int
 |[],[]=>0
 |[],_::_ => -1
 |_::_,[]=>1
 |a::ar,b::br=>if c a b=0 then XD c ar br else c a b
section
variable {α:Type}{c:α→α→Int}{a b:List α}{k:Nat}{x y:α}
theorem Qkk (e:XD c (a.drop k) (b.drop k)=XD c a b)(hx:a[k]?=some x)(hge:b.length≤k):XD c a b=1:=by
 rw[←e,XI hx,List.drop_of_length_le hge];rfl
theorem Kl (e:XD c (a.drop k) (b.drop k)=XD c a b)(hx:a[k]?=some x)(hy:b[k]?=some y):XD c a b=if c x y=0 then XD c (a.drop (k+1)) (b.drop (k+1)) else c x y:=by
 rw[←e,XI hx,XI hy,XD]
theorem Qhu (e:XD c (a.drop k) (b.drop k)=XD c a b)(h:a.length≤k)(hb:k<b.length):XD c a b = -1:=by
 obtain⟨y,hy⟩:=Qw hb
 rw[←e,XI hy,List.drop_of_length_le h];rfl
theorem Qk7 (e:XD c (a.drop k) (b.drop k)=XD c a b)(h:a.length≤k)(hb:b.length≤k):XD c a b=0:=by
 rw[←e,List.drop_of_length_le h,List.drop_of_length_le hb];rfl
end
theorem YV:∀(a b:Nm),Lib.compareBytes a b=if Op.bytesLess a b=true then -1 else if (!(Op.bytesLess a b||a==b))=true then 1 else 0
 |[],[]=>rfl
 |[],_::_=>rfl
 |_::_,[]=>rfl
 |x::a,y::b=>by
  have ih:=YV a b
  unfold Lib.compareBytes Op.bytesLess
  by_cases h1:x<y
  ·simp[h1]
  by_cases h2:y<x
  ·have:x≠y:=fun e=>by subst e;exact h1 h2
   simp[h1,h2,this]
  have:x=y:=by
   rw[UInt8.lt_iff_toNat_lt] at h1 h2;exact UInt8.toNat_inj.1 (by omega)
  subst this
  simp[h1,ih]
def Qa0 (t u:Tk):Int:=orE [Lib.compareInt t.1 u.1,Lib.compareInt t.2 u.2]
def JV (p q:En):Int:=orE [Lib.compareBytes p.2 q.2,XD Qa0 p.1 q.1]
mutual
def JH:Qz→Qz→Int
 | .mk N nm ps es,y=>if orE [Lib.compareInt N y.N,XD Lib.compareBytes nm y.nm]≠0 then orE [Lib.compareInt N y.N,XD Lib.compareBytes nm y.nm] else if Qb7 ps y.ps≠0 then Qb7 ps y.ps else XD JV es y.es
def Qb7:List Qz→List Qz→Int
 |[],[]=>0
 |[],_::_ => -1
 |_::_,[]=>1
 |a::r,b::s=>if JH a b=0 then Qb7 r s else JH a b
end
theorem Qg0:∀a b:List Qz,Qb7 a b=XD JH a b
 |[],[]=>by simp[Qb7,XD]
 |[],_::_=>by simp[Qb7,XD]
 |_::_,[]=>by simp[Qb7,XD]
 |a::r,b::s=>by simp only[Qb7,XD];rw[Qg0 r s]
theorem Wj (x y:Qz):JH x y=if orE [Lib.compareInt x.N y.N,XD Lib.compareBytes x.nm y.nm]≠0 then orE [Lib.compareInt x.N y.N,XD Lib.compareBytes x.nm y.nm] else if XD JH x.ps y.ps≠0 then XD JH x.ps y.ps else XD JV x.es y.es:=by
 cases x with
 |mk N nm ps es=>rw[JH,Qg0];rfl
theorem Qqf (a b:Nm):FC Tryz.prog 223 [sv a,sv b] (i64 (Lib.compareBytes a b)):=Qux (vs:=[.string ⟨a.toArray⟩,.string ⟨b.toArray⟩]) (fun w=>by simpa using QfK ⟨a.toArray⟩ ⟨b.toArray⟩ w)
theorem Qop (x:Int):FC Tryz.prog 237 [i64 x] (bl false):=by
 refine Qg [2] Tryz.func237 rfl rfl 6 Tryz.ntmps237 (Nat.le_of_ble_eq_true rfl) ?_
 intro E hN;refine XR ?_;refine zQ ?_;exact Qr (by simp)
theorem Qjg (x:Int):FC Tryz.prog 212 [i64 x] (bl false):=by
 refine Qg [2] Tryz.func212 rfl rfl 6 Tryz.ntmps212 (Nat.le_of_ble_eq_true rfl) ?_
 intro E hN;refine XR ?_;refine zQ ?_;exact Qr (by simp)
theorem Qkd (x:Nm):FC Tryz.prog 228 [sv x] (bl false):=by
 refine Qg [2] Tryz.func228 rfl rfl 6 Tryz.ntmps228 (Nat.le_of_ble_eq_true rfl) ?_
 intro E hN;refine XR ?_;refine zQ ?_;exact Qr (by simp)
theorem Qud (x y:Int):FC Tryz.prog 224 [i64 x,i64 y] (i64 (Lib.compareInt x y)):=by
 refine Qg [4] Tryz.func224 rfl rfl 20 Tryz.ntmps224 (Nat.le_of_ble_eq_true rfl) ?_
 intro E hN;refine Xy ?_;refine zP (Qd (Qop _) rfl rfl rfl) ?_;refine QL ?_;refine zP (Qd (Qop _) rfl rfl rfl) ?_;refine Xy ?_
 refine zq ?_ ?_<;>intro h3
 ·cases h3
 refine XL ?_
 refine zq ?_ ?_<;>intro h4
 ·cases h4
 refine Jl ?_
 refine zq ?_ ?_<;>intro h5
 ·refine QI ?_;refine zQ ?_;exact Q1 (by unfold Lib.compareInt;simp at *;split<;>(try split)<;>omega)
 refine Jl ?_
 refine zq ?_ ?_<;>intro h6
 ·refine QI ?_;refine zQ ?_;exact Q1 (by unfold Lib.compareInt;simp at *;split<;>(try split)<;>omega)
 refine QK ?_;refine zQ ?_;exact Q1 (by unfold Lib.compareInt;simp at *;split<;>(try split)<;>omega)
theorem QiZ (x y:Int):FC Tryz.prog 184 [i64 x,i64 y] (i64 (Lib.compareInt x y)):=by
 refine Qg [4] Tryz.func184 rfl rfl 20 Tryz.ntmps184 (Nat.le_of_ble_eq_true rfl) ?_
 intro E hN;refine Xy ?_;refine zP (Qd (Qjg _) rfl rfl rfl) ?_;refine QL ?_;refine zP (Qd (Qjg _) rfl rfl rfl) ?_;refine Xy ?_
 refine zq ?_ ?_<;>intro h3
 ·cases h3
 refine XL ?_
 refine zq ?_ ?_<;>intro h4
 ·cases h4
 refine Jl ?_
 refine zq ?_ ?_<;>intro h5
 ·refine QI ?_;refine zQ ?_;exact Q1 (by unfold Lib.compareInt;simp at *;split<;>(try split)<;>omega)
 refine Jl ?_
 refine zq ?_ ?_<;>intro h6
 ·refine QI ?_;refine zQ ?_;exact Q1 (by unfold Lib.compareInt;simp at *;split<;>(try split)<;>omega)
 refine QK ?_;refine zQ ?_;exact Q1 (by unfold Lib.compareInt;simp at *;split<;>(try split)<;>omega)
theorem Quu (x y:Nm):FC Tryz.prog 213 [sv x,sv y] (i64 (Lib.compareBytes x y)):=by
 refine Qg [4] Tryz.func213 rfl rfl 20 Tryz.ntmps213 (Nat.le_of_ble_eq_true rfl) ?_
 intro E hN;refine Xy ?_;refine zP (Qd (Qkd _) rfl rfl rfl) ?_;refine QL ?_;refine zP (Qd (Qkd _) rfl rfl rfl) ?_;refine Xy ?_
 refine zq ?_ ?_<;>intro h3
 ·cases h3
 refine XL ?_
 refine zq ?_ ?_<;>intro h4
 ·cases h4
 refine Jl ?_
 refine zq ?_ ?_<;>intro h5
 ·have h9:=h5
  refine QI ?_;refine zQ ?_;exact Q1 (by rw[YV,if_pos h9])
 have h9:=h5
 refine Jl ?_
 refine zq ?_ ?_<;>intro h6
 ·have h11:=h6
  refine QI ?_;refine zQ ?_;exact Q1 (by rw[YV,if_neg (by simp[h9]),if_pos h11])
 have h11:=h6
 refine QK ?_;refine zQ ?_;exact Q1 (by rw[YV,if_neg (by simp[h9]),if_neg (by simp[h11])])
theorem QqU (a b:Nm):FC Tryz.prog 203 [sv a,sv b] (i64 (Lib.compareBytes a b)):=by
 refine Qg [4] Tryz.func203 rfl rfl 8 Tryz.ntmps203 (Nat.le_of_ble_eq_true rfl) ?_
 intro E hN;refine Jl ?_;refine zP (Qd (Qqf a b) rfl rfl rfl) ?_;refine zS ?_;refine zQ ?_
 rfl
theorem QnT (l:List Int):FC Tryz.prog 183 [ivs l] (i64 (orE l)):=by
 refine Qg [2] Tryz.func183 rfl rfl 18 Tryz.ntmps183 (Nat.le_of_ble_eq_true rfl) ?_
 intro E hN;refine Jq 0 rfl (fun hl0=>?_);refine QbP ?_;refine Qq (fun x:{k:Nat // k≤(l).length∧orE (l.drop k)=orE l}=>⟨[(3,i64 0),(6,ivs l),(7,i64 l.length),(8,i64 (x.1:Nat))],[],0⟩) (fun x=>(l).length-x.1) (⟨0,Nat.zero_le _,by simp⟩) ?_ ?_
 ·exact Qa rfl (Yw ⟨(Y5 (by simp)),rfl,(X2 trivial)⟩) trivial
 rintro⟨k,hk,hg⟩;dsimp only;refine QL ?_
 refine zq ?_ ?_<;>intro h6
 rotate_left
 ·have hge:(l).length≤k:=by simpa using h6
  refine QL ?_;refine zQ ?_;exact Q1 (by rw[←hg,List.drop_of_length_le hge];rfl)
 have hlt:k<(l).length:=by simpa using h6
 obtain⟨x,hx⟩:=Qw hlt
 have hs:orE l=if x==0 then orE (l.drop (k+1)) else x:=by rw[←hg,XI hx];rfl
 refine QL ?_;refine zP (Qh rfl rfl rfl k rfl _ (Qt hx) rfl) ?_;refine J6 ?_
 refine zq ?_ ?_<;>intro h9
 ·refine QK ?_;refine zQ ?_;exact Q1 (by rw[hs,if_neg (by simp_all)])
 have hn:orE (l.drop (k+1))=orE l:=by rw[hs,if_pos (by simpa using h9)]
 refine QK ?_;refine Qc ?_;exact⟨⟨k+1,hlt,hn⟩,Qa rfl (YG ⟨JC,rfl,trivial⟩) trivial,by dsimp only;omega⟩
theorem QsL (a b:List Nm):FC Tryz.prog 185 [Jz a,Jz b] (i64 (XD Lib.compareBytes a b)):=by
 refine Qg [4] Tryz.func185 rfl rfl 36 Tryz.ntmps185 (Nat.le_of_ble_eq_true rfl) ?_
 intro E hN;refine Jq 0 rfl (fun hl0=>?_);refine Jq 1 rfl (fun hl1=>?_);refine JF ?_;refine Qq (fun x:{k:Nat // k≤(a).length∧k≤b.length∧XD Lib.compareBytes (a.drop k) (b.drop k)=XD Lib.compareBytes a b}=>⟨[(0,Jz a),(1,Jz b),(9,Jz a),(10,i64 a.length),(11,i64 (x.1:Nat))],[],0⟩) (fun x=>(a).length-x.1) (⟨0,Nat.zero_le _,by simp⟩) ?_ ?_
 ·exact Qa rfl (YG ⟨(Y5 (by simp)),rfl,(X2 trivial)⟩) trivial
 rintro⟨k,hk,hg⟩;dsimp only;obtain⟨hkb,hg⟩:=hg;refine QL ?_
 refine zq ?_ ?_<;>intro h7
 rotate_left
 ·have hge:(a).length≤k:=by simpa using h7
  refine XR ?_
  refine zq ?_ ?_<;>intro h19
  ·have h11:=h19
   refine QI ?_;refine zQ ?_;exact Q1 (Qhu hg hge (by simp at h11;omega)).symm
  have h11:=h19
  refine QK ?_;refine zQ ?_;exact Q1 (Qk7 hg hge (by simp at h11;omega)).symm
 have hlt:k<(a).length:=by simpa using h7
 obtain⟨x,hx⟩:=Qw hlt;refine XL ?_;refine zP (Qh rfl rfl rfl k rfl _ (Qt hx) rfl) ?_;refine JF ?_
 refine zq ?_ ?_<;>intro h11
 ·have hgb:b.length≤k:=by simpa using h11
  refine QI ?_;refine zQ ?_;exact Q1 (Qkk hg hx hgb).symm
 have hlb:k<b.length:=by simpa using h11
 obtain⟨y,hy⟩:=Qw hlb
 have hs:=Kl hg hx hy
 refine QL ?_;refine zP (Qh rfl rfl rfl k rfl _ (Qt hy) rfl) ?_;refine Xy ?_;refine zP (Qd (Quu x y) rfl rfl rfl) ?_;refine Xy ?_
 refine zq ?_ ?_<;>intro h15
 ·have h8:¬Lib.compareBytes x y=0:=by simpa using h15
  refine QK ?_;refine zQ ?_;exact Q1 (by rw[hs,if_neg h8])
 have h8:Lib.compareBytes x y=0:=by simpa using h15
 have hn:XD Lib.compareBytes (a.drop (k+1)) (b.drop (k+1))=XD Lib.compareBytes a b:=by rw[hs,if_pos h8]
 refine QK ?_;refine Qc ?_;exact⟨⟨k+1,hlt,hlb,hn⟩,Qa rfl (Ks ⟨JC,rfl,trivial⟩) trivial,by dsimp only;omega⟩
theorem QrL {f:FuncId}[Xl Tryz.prog f]{c:Tk→Tk→Int}(a b:List Tk)(hc:∀x∈a,∀y,FC Tryz.prog f [.agg (tkC x),.agg (tkC y)] (i64 (c x y))):FC Tryz.prog 204 [tks a,tks b,.fn f []] (i64 (XD c a b)):=by
 refine Qg [6] Tryz.func204 rfl rfl 39 Tryz.ntmps204 (Nat.le_of_ble_eq_true rfl) ?_
 intro E hN;refine Jq 0 rfl (fun hl0=>?_);refine Jq 1 rfl (fun hl1=>?_);refine JF ?_;refine Qq (fun x:{k:Nat // k≤(a).length∧k≤b.length∧XD c (a.drop k) (b.drop k)=XD c a b}=>⟨[(0,tks a),(1,tks b),(2,.fn f []),(11,tks a),(12,i64 a.length),(13,i64 (x.1:Nat))],[],0⟩) (fun x=>(a).length-x.1) (⟨0,Nat.zero_le _,by simp⟩) ?_ ?_
 ·exact Qa rfl (Ks ⟨(Y5 (by simp)),rfl,(X2 trivial)⟩) trivial
 rintro⟨k,hk,hg⟩;dsimp only;obtain⟨hkb,hg⟩:=hg;refine QL ?_
 refine zq ?_ ?_<;>intro h8
 rotate_left
 ·have hge:(a).length≤k:=by simpa using h8
  refine XR ?_
  refine zq ?_ ?_<;>intro h26
  ·have h11:=h26
   refine QI ?_;refine zQ ?_;exact Q1 (Qhu hg hge (by simp at h11;omega)).symm
  have h11:=h26
  refine QK ?_;refine zQ ?_;exact Q1 (Qk7 hg hge (by simp at h11;omega)).symm
 have hlt:k<(a).length:=by simpa using h8
 obtain⟨x,hx⟩:=Qw hlt;refine XL ?_;refine zP (Qh rfl rfl rfl k rfl _ (Qt hx) rfl) ?_;refine Qbp ?_
 refine zq ?_ ?_<;>intro h14
 ·have hgb:b.length≤k:=by simpa using h14
  refine QI ?_;refine zQ ?_;exact Q1 (Qkk hg hx hgb).symm
 have hlb:k<b.length:=by simpa using h14
 obtain⟨y,hy⟩:=Qw hlb
 have hs:=Kl hg hx hy
 refine QL ?_;refine zP (Qh rfl rfl rfl k rfl _ (Qt hy) rfl) ?_;refine J6 ?_;refine zP (QaO (hc x (List.mem_of_getElem? hx) y) rfl rfl rfl rfl) ?_;refine Xy ?_
 refine zq ?_ ?_<;>intro h22
 ·have h8:¬c x y=0:=by simpa using h22
  refine QK ?_;refine zQ ?_;exact Q1 (by rw[hs,if_neg h8])
 have h8:c x y=0:=by simpa using h22
 have hn:XD c (a.drop (k+1)) (b.drop (k+1))=XD c a b:=by rw[hs,if_pos h8]
 refine QK ?_;refine Qc ?_;exact⟨⟨k+1,hlt,hlb,hn⟩,Qa rfl (Ks (X2 ⟨JC,rfl,trivial⟩)) trivial,by dsimp only;omega⟩
theorem Qsq {f:FuncId}[Xl Tryz.prog f]{c:En→En→Int}(a b:List En)(hc:∀x∈a,∀y,FC Tryz.prog f [.agg (enC x),.agg (enC y)] (i64 (c x y))):FC Tryz.prog 187 [ens a,ens b,.fn f []] (i64 (XD c a b)):=by
 refine Qg [6] Tryz.func187 rfl rfl 39 Tryz.ntmps187 (Nat.le_of_ble_eq_true rfl) ?_
 intro E hN;refine Jq 0 rfl (fun hl0=>?_);refine Jq 1 rfl (fun hl1=>?_);refine JF ?_;refine Qq (fun x:{k:Nat // k≤(a).length∧k≤b.length∧XD c (a.drop k) (b.drop k)=XD c a b}=>⟨[(0,ens a),(1,ens b),(2,.fn f []),(11,ens a),(12,i64 a.length),(13,i64 (x.1:Nat))],[],0⟩) (fun x=>(a).length-x.1) (⟨0,Nat.zero_le _,by simp⟩) ?_ ?_
 ·exact Qa rfl (Ks ⟨(Y5 (by simp)),rfl,(X2 trivial)⟩) trivial
 rintro⟨k,hk,hg⟩;dsimp only;obtain⟨hkb,hg⟩:=hg;refine QL ?_
 refine zq ?_ ?_<;>intro h8
 rotate_left
 ·have hge:(a).length≤k:=by simpa using h8
  refine XR ?_
  refine zq ?_ ?_<;>intro h26
  ·have h11:=h26
   refine QI ?_;refine zQ ?_;exact Q1 (Qhu hg hge (by simp at h11;omega)).symm
  have h11:=h26
  refine QK ?_;refine zQ ?_;exact Q1 (Qk7 hg hge (by simp at h11;omega)).symm
 have hlt:k<(a).length:=by simpa using h8
 obtain⟨x,hx⟩:=Qw hlt;refine XL ?_;refine zP (Qh rfl rfl rfl k rfl _ (Qt hx) rfl) ?_;refine Qbp ?_
 refine zq ?_ ?_<;>intro h14
 ·have hgb:b.length≤k:=by simpa using h14
  refine QI ?_;refine zQ ?_;exact Q1 (Qkk hg hx hgb).symm
 have hlb:k<b.length:=by simpa using h14
 obtain⟨y,hy⟩:=Qw hlb
 have hs:=Kl hg hx hy
 refine QL ?_;refine zP (Qh rfl rfl rfl k rfl _ (Qt hy) rfl) ?_;refine J6 ?_;refine zP (QaO (hc x (List.mem_of_getElem? hx) y) rfl rfl rfl rfl) ?_;refine Xy ?_
 refine zq ?_ ?_<;>intro h22
 ·have h8:¬c x y=0:=by simpa using h22
  refine QK ?_;refine zQ ?_;exact Q1 (by rw[hs,if_neg h8])
 have h8:c x y=0:=by simpa using h22
 have hn:XD c (a.drop (k+1)) (b.drop (k+1))=XD c a b:=by rw[hs,if_pos h8]
 refine QK ?_;refine Qc ?_;exact⟨⟨k+1,hlt,hlb,hn⟩,Qa rfl (Ks (X2 ⟨JC,rfl,trivial⟩)) trivial,by dsimp only;omega⟩
theorem Qtx {f:FuncId}[Xl Tryz.prog f]{c:Qz→Qz→Int}(a b:List Qz)(hc:∀x∈a,∀y,FC Tryz.prog f [.agg (QO x),.agg (QO y)] (i64 (c x y))):FC Tryz.prog 186 [Ki a,Ki b,.fn f []] (i64 (XD c a b)):=by
 refine Qg [6] Tryz.func186 rfl rfl 39 Tryz.ntmps186 (Nat.le_of_ble_eq_true rfl) ?_
 intro E hN;refine Jq 0 rfl (fun hl0=>?_);refine Jq 1 rfl (fun hl1=>?_);refine JF ?_;refine Qq (fun x:{k:Nat // k≤(a).length∧k≤b.length∧XD c (a.drop k) (b.drop k)=XD c a b}=>⟨[(0,Ki a),(1,Ki b),(2,.fn f []),(11,Ki a),(12,i64 a.length),(13,i64 (x.1:Nat))],[],0⟩) (fun x=>(a).length-x.1) (⟨0,Nat.zero_le _,by simp⟩) ?_ ?_
 ·exact Qa rfl (Ks ⟨(Y5 (by simp)),rfl,(X2 trivial)⟩) trivial
 rintro⟨k,hk,hg⟩;dsimp only;obtain⟨hkb,hg⟩:=hg;refine QL ?_
 refine zq ?_ ?_<;>intro h8
 rotate_left
 ·have hge:(a).length≤k:=by simpa using h8
  refine XR ?_
  refine zq ?_ ?_<;>intro h26
  ·have h11:=h26
   refine QI ?_;refine zQ ?_;exact Q1 (Qhu hg hge (by simp at h11;omega)).symm
  have h11:=h26
  refine QK ?_;refine zQ ?_;exact Q1 (Qk7 hg hge (by simp at h11;omega)).symm
 have hlt:k<(a).length:=by simpa using h8
 obtain⟨x,hx⟩:=Qw hlt;refine XL ?_;refine zP (Qh rfl rfl rfl k rfl _ (Q8 hx) rfl) ?_;refine Qbp ?_
 refine zq ?_ ?_<;>intro h14
 ·have hgb:b.length≤k:=by simpa using h14
  refine QI ?_;refine zQ ?_;exact Q1 (Qkk hg hx hgb).symm
 have hlb:k<b.length:=by simpa using h14
 obtain⟨y,hy⟩:=Qw hlb
 have hs:=Kl hg hx hy
 refine QL ?_;refine zP (Qh rfl rfl rfl k rfl _ (Q8 hy) rfl) ?_;refine J6 ?_;refine zP (QaO (hc x (List.mem_of_getElem? hx) y) rfl rfl rfl rfl) ?_;refine Xy ?_
 refine zq ?_ ?_<;>intro h22
 ·have h8:¬c x y=0:=by simpa using h22
  refine QK ?_;refine zQ ?_;exact Q1 (by rw[hs,if_neg h8])
 have h8:c x y=0:=by simpa using h22
 have hn:XD c (a.drop (k+1)) (b.drop (k+1))=XD c a b:=by rw[hs,if_pos h8]
 refine QK ?_;refine Qc ?_;exact⟨⟨k+1,hlt,hlb,hn⟩,Qa rfl (Ks (X2 ⟨JC,rfl,trivial⟩)) trivial,by dsimp only;omega⟩
theorem Qsz (x y:Tk):FC Tryz.prog 205 [.agg (tkC x),.agg (tkC y)] (i64 (Qa0 x y)):=by
 refine Qg [4] Tryz.func205 rfl rfl 17 Tryz.ntmps205 (Nat.le_of_ble_eq_true rfl) ?_
 intro E hN;refine Xy ?_;refine zD 12 ?_;refine QK ?_;refine zp (Qd (Qud _ _) rfl rfl rfl) ?_;refine QK ?_;refine zp (Qd (QiZ _ _) rfl rfl rfl) ?_;refine zp (Q0 rfl rfl rfl rfl (by exact rfl) (by decide) (by decide)) ?_;refine zp (Qd (QnT [Lib.compareInt x.1 y.1,Lib.compareInt x.2 y.2]) rfl rfl rfl) ?_;refine zS ?_;refine zQ ?_
 rfl
theorem QlO (x y:En):FC Tryz.prog 174 [.agg (enC x),.agg (enC y)] (i64 (JV x y)):=by
 refine Qg [4] Tryz.func174 rfl rfl 17 Tryz.ntmps174 (Nat.le_of_ble_eq_true rfl) ?_
 intro E hN;refine Xy ?_;refine zD 12 ?_;refine QK ?_;refine zp (Qd (QqU _ _) rfl rfl rfl) ?_;refine QK ?_;refine zp (Qd (QrL x.1 y.1 (fun u _ v=>Qsz u v)) rfl rfl rfl) ?_;refine zp (Q0 rfl rfl rfl rfl (by exact rfl) (by decide) (by decide)) ?_;refine zp (Qd (QnT [Lib.compareBytes x.2 y.2,XD Qa0 x.1 y.1]) rfl rfl rfl) ?_;refine zS ?_;refine zQ ?_
 rfl
theorem QsP (x y:Qz)(ih:∀u∈x.ps,∀v,FC Tryz.prog 147 [.agg (QO u),.agg (QO v)] (i64 (JH u v))):FC Tryz.prog 147 [.agg (QO x),.agg (QO y)] (i64 (JH x y)):=by
 refine Qg [4] Tryz.func147 rfl rfl 35 Tryz.ntmps147 (Nat.le_of_ble_eq_true rfl) ?_
 intro E hN;refine Jl ?_;refine zD 12 ?_;refine QK ?_;refine zp (Qd (QiZ _ _) rfl rfl rfl) ?_;refine QK ?_;refine zp (Qd (QsL _ _) rfl rfl rfl) ?_;refine zp (Q0 rfl rfl rfl rfl (by exact rfl) (by decide) (by decide)) ?_;refine zp (Qd (QnT [Lib.compareInt x.N y.N,XD Lib.compareBytes x.nm y.nm]) rfl rfl rfl) ?_;refine Xy ?_
 refine zq ?_ ?_<;>intro h17
 ·have h2:=h17
  refine QK ?_;refine zQ ?_;exact Q1 (by rw[Wj,if_pos (by simpa using h2)])
 have h2:=h17
 refine Jl ?_;refine zP (Qd (Qtx x.ps y.ps ih) rfl rfl rfl) ?_;refine Xy ?_
 refine zq ?_ ?_<;>intro h23
 ·have h5:=h23
  refine QK ?_;refine zQ ?_;exact Q1 (by rw[Wj,if_neg (by simpa using h2),if_pos (by simpa using h5)])
 have h5:=h23
 refine Xy ?_;refine zP (Qd (Qsq x.es y.es (fun u _ v=>QlO u v)) rfl rfl rfl) ?_;refine zS ?_;refine zQ ?_;exact Q1 (by rw[Wj,if_neg (by simpa using h2),if_neg (by simpa using h5)])
theorem Qgt (x y:Qz):FC Tryz.prog 147 [.agg (QO x),.agg (QO y)] (i64 (JH x y)):=QsP x y (fun u _ v=>Qgt u v)
termination_by x
decreasing_by exact Qz.sizeOf_ps ‹_›
def eqV (x y:Qz):Bool:=JH x y==0
theorem Qgo (x y:Qz):FC Tryz.prog 116 [.agg (QO x),.agg (QO y)] (bl (eqV x y)):=by
 refine Qg [4] Tryz.func116 rfl rfl 9 Tryz.ntmps116 (Nat.le_of_ble_eq_true rfl) ?_
 intro E hN;refine XR ?_;refine zP (Qd (Qgt x y) rfl rfl rfl) ?_;refine QR ?_;refine zQ ?_
 rfl
structure Qab {α:Type} (c:α→α→Int):Prop where
 anti:∀x y,c x y≤0↔0≤c y x
 trans:∀x y z,c x y≤0→c y z≤0→c x z≤0
 eq:∀x y,c x y=0→x=y
theorem Qab.refl {α:Type}{c:α→α→Int}(h:Qab c)(x:α):c x x=0:=by
 have:=h.anti x x
 omega
theorem Qab.zero {α:Type}{c:α→α→Int}(h:Qab c){x y:α}(e:c x y=0):c y x=0:=by
 obtain rfl:=h.eq _ _ e;exact e
theorem Qab.swo {α β:Type}{c:α→α→Int}(h:Qab c)(f:β→α):Sort.SWO (fun x y:β=>decide (c (f x) (f y)<0)) where
 irrefl x:=by simp[h.refl]
 trans x y z h1 h2:=by
  simp only[decide_eq_true_eq] at *
  have a1:=h.anti (f x) (f z)
  have a2:=h.anti (f z) (f x)
  have a3:=h.anti (f y) (f z)
  have a4:=h.anti (f z) (f y)
  by_cases hz:c (f z) (f x)≤0
  ·have:=h.trans _ _ _ hz (show c (f x) (f y)≤0 by omega)
   omega
  omega
 ntrans x y z h1 h2:=by
  simp only[decide_eq_false_iff_not] at *
  have a1:=h.anti (f y) (f x)
  have a2:=h.anti (f z) (f y)
  have a3:=h.anti (f z) (f x)
  have:=h.trans (f z) (f y) (f x) (by omega) (by omega)
  omega
def Qog {α:Type}(c1 c2:α→α→Int)(x y:α):Int:=if c1 x y=0 then c2 x y else c1 x y
theorem Qgb {α:Type}{c:α→α→Int}(h:Qab c):Qab (XD c) where
 anti x y:=by
  induction x generalizing y with
  |nil=>cases y<;>simp[XD]
  |cons a ar ih=>
   cases y with
   |nil=>simp[XD]
   |cons b br=>
    simp only[XD]
    have a1:=h.anti a b
    have a2:=h.anti b a
    by_cases e:c a b=0
    ·rw[if_pos e,if_pos (h.zero e)];exact ih br
    have e2:c b a≠0:=fun e2=>e (h.zero e2)
    rw[if_neg e,if_neg e2];exact a1
 trans x y z h1 h2:=by
  induction x generalizing y z with
  |nil=>cases z<;>simp[XD]
  |cons a ar ih=>
   cases y with
   |nil=>simp[XD] at h1
   |cons b br=>
    cases z with
    |nil=>simp[XD] at h2
    |cons d dr=>
     simp only[XD] at *
     have t:=h.trans a b d
     have t2:=h.trans b d a
     have t3:=h.trans d a b
     have p1:=h.anti a b
     have p2:=h.anti b a
     have p3:=h.anti b d
     have p4:=h.anti d b
     have p5:=h.anti a d
     have p6:=h.anti d a
     by_cases e1:c a b=0
     ·obtain rfl:=h.eq _ _ e1
      rw[if_pos e1] at h1
      by_cases e2:c a d=0
      ·rw[if_pos e2] at h2 ⊢;exact ih _ _ h1 h2
      rw[if_neg e2] at h2 ⊢;exact h2
     rw[if_neg e1] at h1
     by_cases e2:c b d=0
     ·obtain rfl:=h.eq _ _ e2
      rw[if_neg e1];exact h1
     rw[if_neg e2] at h2
     have e3:c a d≠0:=by
      intro e3;obtain rfl:=h.eq _ _ e3
      omega
     rw[if_neg e3];exact t h1 h2
 eq x y e:=by
  induction x generalizing y with
  |nil=>cases y<;>simp[XD] at *
  |cons a ar ih=>
   cases y with
   |nil=>simp[XD] at e
   |cons b br=>
    simp only[XD] at e
    by_cases e1:c a b=0
    ·rw[if_pos e1] at e;rw[h.eq _ _ e1,ih _ e]
    rw[if_neg e1] at e;exact absurd e e1
theorem Ky:Qab Lib.compareInt where
 anti x y:=by unfold Lib.compareInt;split<;>split<;>(try split)<;>omega
 trans x y z:=by unfold Lib.compareInt;split<;>split<;>(try split)<;>(try split)<;>(try split)<;>omega
 eq x y:=by unfold Lib.compareInt;split<;>(try split)<;>omega
theorem Qf4 {α β γ:Type}{c1:β→β→Int}{c2:γ→γ→Int}(f:α→β)(g:α→γ)(h1:Qab c1)(h2:Qab c2)(inj:∀x y,f x=f y→g x=g y→x=y):
  Qab (Qog (fun x y=>c1 (f x) (f y)) (fun x y=>c2 (g x) (g y))) where
 anti x y:=by
  simp only[Qog]
  have a1:=h1.anti (f x) (f y)
  have a2:=h1.anti (f y) (f x)
  by_cases e:c1 (f x) (f y)=0
  ·rw[if_pos e,if_pos (h1.zero e)];exact h2.anti _ _
  have e2:c1 (f y) (f x)≠0:=fun e2=>e (h1.zero e2)
  rw[if_neg e,if_neg e2];exact a1
 trans x y z k1 k2:=by
  simp only[Qog] at *
  by_cases e1:c1 (f x) (f y)=0
  ·have q:=h1.eq _ _ e1
   rw[if_pos e1] at k1;rw[q]
   by_cases e2:c1 (f y) (f z)=0
   ·rw[if_pos e2] at k2 ⊢;exact h2.trans _ _ _ k1 k2
   rw[if_neg e2] at k2 ⊢;exact k2
  rw[if_neg e1] at k1
  by_cases e2:c1 (f y) (f z)=0
  ·have q:=h1.eq _ _ e2
   rw[←q,if_neg e1];exact k1
  rw[if_neg e2] at k2
  have e3:c1 (f x) (f z)≠0:=by
   intro e3
   have q:=h1.eq _ _ e3
   rw[q] at k1 e1
   have:=h1.anti (f y) (f z)
   have:=h1.anti (f z) (f y)
   omega
  rw[if_neg e3];exact h1.trans _ _ _ k1 k2
 eq x y e:=by
  simp only[Qog] at e
  by_cases e1:c1 (f x) (f y)=0
  ·rw[if_pos e1] at e;exact inj _ _ (h1.eq _ _ e1) (h2.eq _ _ e)
  rw[if_neg e1] at e;exact absurd e e1
theorem Qg6 (a b:Int):orE [a,b]=if a=0 then b else a:=by
 simp only[orE]
 by_cases h:a=0<;>by_cases h2:b=0<;>simp[h,h2]
theorem QrE:Qab Qa0:=by
 have:Qa0=Qog (fun x y:Tk=>Lib.compareInt x.1 y.1) (fun x y:Tk=>Lib.compareInt x.2 y.2):=by
  funext x y;rw[Qa0,Qg6];rfl
 rw[this]
 exact Qf4 _ _ Ky Ky fun x y h1 h2=>Prod.ext h1 h2
def QsD (a b:UInt8):Int:=if a<b then -1 else if b<a then 1 else 0
theorem Qum:Qab QsD:=by
 have e:∀a b:UInt8,QsD a b=Lib.compareInt a.toNat b.toNat:=fun a b=>by
  have h1:(a<b)=((a.toNat:Int)<b.toNat):=by rw[UInt8.lt_iff_toNat_lt];simp
  have h2:(b<a)=((b.toNat:Int)<a.toNat):=by rw[UInt8.lt_iff_toNat_lt];simp
  unfold QsD Lib.compareInt
  simp only[h1,h2,gt_iff_lt]
 exact⟨fun x y=>by rw[e,e];exact Ky.anti _ _,fun x y z=>by rw[e,e,e];exact Ky.trans _ _ _,fun x y h=>by
  rw[e] at h
  have:=Ky.eq _ _ h
  exact UInt8.toNat_inj.1 (by omega)⟩
theorem Yg:Qab Lib.compareBytes:=by
 have:Lib.compareBytes=XD QsD:=by
  funext x y
  induction x generalizing y with
  |nil=>cases y<;>rfl
  |cons a ar ih=>cases y with
   |nil=>rfl
   |cons b br=>
    simp only[Lib.compareBytes,XD]
    rw[ih]
    unfold QsD
    by_cases h1:a<b
    ·simp[h1]
    by_cases h2:b<a
    ·simp[h1,h2]
    simp[h1,h2]
 rw[this];exact Qgb Qum
theorem YL:Qab JV:=by
 have:JV=Qog (fun x y:En=>Lib.compareBytes x.2 y.2) (fun x y:En=>XD Qa0 x.1 y.1):=by
  funext x y;rw[JV,Qg6];rfl
 rw[this]
 exact Qf4 _ _ Yg (Qgb QrE) fun x y h1 h2=>Prod.ext h2 h1
end Go.Proofs.YtnkkokmmeplbgaaGreat
