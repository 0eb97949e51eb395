/-
  A receiver with a row of its own in a cell: readers; nil in 
-/
import Derived.Test.YtnkkokmmeplbgaaGreatA8
import Derived.Test.YtnkkokmmeplbgaaGreatA10
import Derived.Test.YtnkkokmmeplbgaaGreatA3
import Derived.Test.YtnkkokmmeplbgaaGreatT5
import Derived.Test.YtnkkokmmeplbgaaGreatA4
namespace Go.Proofs.YtnkkokmmeplbgaaGreat
open Go.RowKit
theorem QcN {E:X7}{t:List (Nat×AV)}{H:List (Nat×Qj)}{nx:Nat}(hB:Nat.blt nx Qf=true)(q i:Nat)(te:TypeId)(k:Nat){tt:TypeId}{cs:List AV}(hq:Qb H q=some (.var tt cs))(hn:Nat.beq q nx=false)(h:cs[i]?=some (.p (.slice none 0 0))):Kj E ⟨t,H,nx⟩ ⟨t,(q,.var tt (cs.set i (.own nx 0)))::(nx,.arr te k [])::H,nx+1⟩:=fun c a hr=>by
 obtain⟨c',e1,e2,hle,e4,e5,hr'⟩:=hr.new (Nat.le_of_ble_eq_true hB) (Bel.refl c.w) (.slice none 0 0) (.arr te k []) (fun c' e1 e2 hle=>.arr _ te k [] [] (World.ownsRow_nil _ 0 te k) (by simp) (by simp) (fun b hb=>by simp[Xd] at hb)) (fun b hb=>by simp[Xd] at hb)
 have hv:VR c' (.slice none 0 0) (.own nx 0):=by
  refine .own _ _ _ e4 (fun A n' cap hh=>?_);rw[show c'.V nx=some (.slice none 0 0) from e5] at hh
  cases hh
  exact⟨Nat.le_refl _,fun _=>rfl⟩
 have hne:q≠nx:=fun e=>by subst e;simp at hn
 have hlk:∀o,Qb ((q,Qj.var tt (cs.set i (.own nx 0)))::(nx,.arr te k [])::H) o=if o=q then some (Qj.var tt (cs.set i (.own nx 0))) else Qb ((nx,.arr te k [])::H) o:=fun o=>Qn _ _ _ _
 have hqq:Qb ((nx,Qj.arr te k [])::H) q=some (.var tt cs):=by rw[Qe _ _ hne];exact hq
 refine⟨c',e1,{ hr' with live:=fun o ob ho=>?_,dead:=fun o ho=>?_ }⟩
 ·replace ho:Qb ((q,Qj.var tt (cs.set i (.own nx 0)))::(nx,.arr te k [])::H) o=some ob:=ho
  rw[hlk] at ho
  split at ho
  ·rename_i e
   subst e
   cases ho
   obtain⟨g1,v,g2,g3,g4⟩:=hr'.live _ _ hqq;refine⟨g1,v,g2,?_,g4⟩
   cases g3 with
   |var b ccs _ _ hb hl hc hS=>
    refine .var b ccs tt _ hb (by simp[hl]) (fun j u x hj hx=>?_) hS;rw[List.getElem?_set] at hx
    split at hx
    ·rename_i e
     subst e
     split at hx
     ·cases hx
      have:=(hc _ u _ hj h).p_inv
      rw[this];exact hv
     cases hx
    exact hc j u x hj hx
  exact hr'.live o ob ho
 replace ho:Qb ((q,Qj.var tt (cs.set i (.own nx 0)))::(nx,.arr te k [])::H) o=none:=ho
 rw[hlk] at ho
 split at ho
 ·cases ho
 exact hr'.dead o ho
theorem Qu0 {st:St}{ob ob' o2 o2':Qj}(ho:Qb st.H Qf=some ob')(he:ob'=ob)(hk:JB 0 ob=true)(h2:Qb st.H (Qf+1)=some o2')(e2:o2'=o2)(k2:JB 0 o2=true):∀o ob2,Qb [(Qf,ob),(Qf+1,o2)] o=some ob2→Qb st.H o=some ob2∧Qf≤o∧JB 0 ob2=true:=fun o ob2 hz=>by
 subst he e2
 replace hz:Qb ((Qf,ob')::[(Qf+1,o2')]) o=some ob2:=hz
 rw[Qn,Qa3] at hz
 split at hz
 ·rename_i e;cases hz;subst e;exact⟨ho,Nat.le_refl _,hk⟩
 split at hz
 ·rename_i e;cases hz;subst e;exact⟨h2,Nat.le_succ _,k2⟩
 cases hz
theorem QwJ {st:St}{ts:List Nat}{r res:AV}{ob ob' o2 o2':Qj}(h:(Xz st ts).fzt=some r)(hr:r=res)(ho:Qb st.H Qf=some ob')(he:ob'=ob)(hk:JB 0 ob=true)(h2:Qb st.H (Qf+1)=some o2')(e2:o2'=o2)(k2:JB 0 o2=true):
  (Xz st ts).fzt=some res∧∀o ob2,Qb [(Qf,ob),(Qf+1,o2)] o=some ob2→Qb st.H o=some ob2∧Qf≤o∧JB 0 ob2=true:=⟨by rw[h,hr],Qu0 ho he hk h2 e2 k2⟩
section
variable {P:Program}{E:X7}{o:Oper}{st:St}
end
section
variable {P:Program}{E:X7}{ops:Array Oper}{o:Oper}{t:List (Nat×AV)}{H:List (Nat×Qj)}{nx N d:Nat}{w:Bool}
end
section
variable {P:Program}{E:X7}{ops:Array Oper}{o:Oper}{t:List (Nat×AV)}{H:List (Nat×Qj)}{nx N d:Nat}{w:Bool}
end
end Go.Proofs.YtnkkokmmeplbgaaGreat
