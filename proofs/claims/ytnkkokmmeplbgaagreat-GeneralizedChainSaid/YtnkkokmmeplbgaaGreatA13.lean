/-
  Operations taken at the begin: comparisons of known outcome,
-/
import Derived.Test.YtnkkokmmeplbgaaGreatA10
import Derived.Test.YtnkkokmmeplbgaaGreatA12
import Derived.Test.YtnkkokmmeplbgaaGreatA3
namespace Go.Proofs.YtnkkokmmeplbgaaGreat
open Go.RowKit
section
variable {P:Program}{E:X7}{ops:Array Oper}{o:Oper}{w:Bool}{N d:Nat}{s:St}
end
section
variable {P:Program}{E:X7}{ops:Array Oper}{o:Oper}{N d:Nat}{w:Bool}
theorem Qcs (hN:E.N=N){s0:St}{x:Operand}(ho:o.op=.nilCheck x){ax y:AV}(hx:X4 s0 x=some ax){ys:List AV}(hc:s0.at_ ax=some (y::ys))(hg:Qo ops s0 o=some w)(hw:w=true)(hd:o.dst=some d)(hdN:Nat.blt d N=true):WI P E ops o ax s0:=QgP hN hg hw hd hdN fun c a hr=>by
 have hv:=hr.ev x
 rw[QZ hx] at hv;obtain⟨b,off,hat⟩:=hr.at_ hv hc;obtain⟨hp,_⟩:=hat 0 y rfl;exact⟨a.eval x,fun w=>by simp[execOp,ho,hp],hv⟩
end
section
variable {ρ:List (Nat×Nat)}{q k:Nat}{te T:TypeId}{es:List (List AV)}{cs cs':List AV}{l l' H:List (Nat×Qj)}
theorem Qvo {L:Nat}{x:AV}(h:(match x with | .p _ | .sl _ none | .emp | .bot | .el _=>true|_=>false)=true):okId L x=true:=by
 cases x with
 |sl es tk=>cases tk with
  |none=>rfl
  |some o=>cases h
 |_=>first|rfl|cases h
theorem ok_A {L:Nat}(h:∀e∈es,fzs e=some e):JB L (.arr te k es)=true:=List.all_eq_true.2 fun x hx=>Qvo (List.all_eq_true.1 (Qcz h) x hx)
end
theorem Qfh {k:Nat}:∀ {H:List (Nat×Qj)},(∀p∈H,k≠p.1)→J8 k H=H
 |[],_=>rfl
 |(j,x)::r,h=>by
  have h1:(k==j)=false:=by simpa using h (j,x) (.head _)
  rw[J8,h1,cond_false,Qfh fun p hp=>h p (.tail _ hp)]
theorem JK.erase {H:List (Nat×Qj)}{k:Nat}(hH:JK H)(hk:Nat.blt k Qf=true):J8 k H=H:=Qfh fun p hp=>by
 have h1:=(hH.h _ _ (hH.m p hp)).1
 have h2:k<Qf:=Nat.le_of_ble_eq_true hk
 omega
theorem Qmw {k:Nat}{x:Qj}{H H':List (Nat×Qj)}(h:J8 k H=H'):J8 k ((k,x)::H)=H':=by rw[J8,beq_self_eq_true,cond_true,h]
end Go.Proofs.YtnkkokmmeplbgaaGreat
