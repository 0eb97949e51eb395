/-
  Contracts: a run notes what a node has learned; it delivers 
-/
import Derived.Test.YtnkkokmmeplbgaaGreatK3
namespace Go.Proofs.YtnkkokmmeplbgaaGreat
set_option maxRecDepth 100000
set_option maxHeartbeats 1000000
open Go.RowKit
theorem QpB (l:Qv)(hc:QJ l=0)(c:Cl)(hok:c.ok)(k:Nat){i:Int}(hi:i=(k:Nat)){s:Nd}{p:Option Pp}(hk:c.F[k]?=some (s,p))(el:El l 100000 s.lrn)(h1:c.lrn.length≤100000):GX Tryz.prog 103 [.ptr Qf 0,i64 i] (KL l c bg) (.tup []) (KL l ({ c with lrn:=c.lrn++[s.lrn] }) bg) 0:=by
 have hlt:k<c.F.length:=(List.getElem?_eq_some_iff.1 hk).1
 refine Xt [] Tryz.func103 rfl rfl 22 Tryz.ntmps103 (Nat.le_of_ble_eq_true rfl) ?_
 intro E hN;refine Qq2 14 6 #[true,true,true,true,true,true,true,true,true,true,true,true,true,true,false,false,false,false,false,false] (by kernel_rfl) (by kernel_rfl) (by kernel_rfl) (by kernel_rfl) (by kernel_rfl) (by kernel_rfl) ?_;refine J6 ?_;refine zp (QU rfl rfl rfl rfl JR k hi hlt) ?_;refine zp (XJ rfl rfl rfl JR QbA k rfl (QbL hlt) (fun _=>rfl) rfl) ?_;refine zp (QsB Xb (Xn.self Xb) hk hok (Qvz l hc s p el) rfl rfl) ?_;refine zp (YD rfl rfl rfl (by simp)) ?_
 refine zp (Q0 rfl rfl rfl rfl (by exact rfl) (by decide) (by decide)) ?_;refine⟨_,Kj.refl,?_⟩;refine Yf [14] (by kernel_rfl) rfl ⟨.inr (.inr (Qk hN rfl rfl rfl rfl (by simp) rfl rfl (by rfl) (by simp[QT];omega) rfl rfl rfl rfl ?_)),trivial⟩;change AN _ _ _ _ _ _ _ _;refine Yf [15,17] (by kernel_rfl) rfl ⟨.inl (QG rfl ?_),.inl (QG rfl ?_),trivial⟩
 ·refine zp (QU rfl rfl rfl rfl (by simp[QT]) c.lrn.length rfl (by simp[QT])) ?_;change AN _ _ _ _ _ _ _ _;refine Yf [16,17] (by kernel_rfl) rfl ⟨.inr (.inl (Q5 rfl rfl rfl rfl (by simp[QT]) c.lrn.length rfl (by simp[QT]) rfl rfl rfl rfl (Wc rfl) rfl rfl rfl Qal ?_)),.inl (QG rfl ?_),trivial⟩
  ·change AN _ _ _ _ _ _ _ _;refine Yf [17] (by kernel_rfl) rfl ⟨.inl (QG rfl ?_),trivial⟩;refine Yy ?_;change AN _ _ _ _ _ _ _ _;refine Yf [18] (by kernel_rfl) rfl ⟨.inl (QG rfl ?_),trivial⟩;refine zf ?_;change AN _ _ _ _ _ _ _ _;refine Yf [19] (by kernel_rfl) rfl ⟨.inr (.inl (Xs rfl rfl rfl rfl rfl (QP rfl (by simp[QT])) rfl (Nat.le_of_ble_eq_true rfl) rfl rfl rfl rfl ?_)),trivial⟩;change AN _ _ _ _ _ _ _ _;refine QaL (by kernel_rfl) ?_;change (Xz _ _).ntt=_∧_
   exact Ya rfl rfl rfl rfl rfl Xb hok QeT (Xn.chg (Xn.self Xb) [0,5] (fun j hj ob hob=>by simp only[List.mem_cons,List.not_mem_nil,or_false] at hj;rcases hj with rfl|rfl<;>(rw[←hob];first|rfl|(simp only[Kz,clC,List.length_append];rfl))) (fun j _ hj=>QaR hj) (fun j _ hj=>by simp only[List.mem_cons,List.not_mem_nil,or_false,not_or] at hj;repeat (first|rfl|rw[Qe _ _ (by unfold bg;omega)])))
  refine Yy ?_;change AN _ _ _ _ _ _ _ _;refine Yf [16,18] (by kernel_rfl) rfl ⟨.inr (.inl (Q5 rfl rfl rfl rfl (by simp[QT]) c.lrn.length rfl (by simp[QT]) rfl rfl rfl rfl (Wc rfl) rfl rfl rfl Qal ?_)),.inl (QG rfl ?_),trivial⟩
  ·change AN _ _ _ _ _ _ _ _;refine Yf [18] (by kernel_rfl) rfl ⟨.inl (QG rfl ?_),trivial⟩;refine zf ?_;change AN _ _ _ _ _ _ _ _;refine Yf [19] (by kernel_rfl) rfl ⟨.inr (.inl (Xs rfl rfl rfl rfl rfl (QP rfl (by simp[QT])) rfl (Nat.le_of_ble_eq_true rfl) rfl rfl rfl rfl ?_)),trivial⟩;change AN _ _ _ _ _ _ _ _;refine QaL (by kernel_rfl) ?_;change (Xz _ _).ntt=_∧_
   exact Ya rfl rfl rfl rfl rfl Xb hok QeT (Xn.chg (Xn.self Xb) [0,5] (fun j hj ob hob=>by simp only[List.mem_cons,List.not_mem_nil,or_false] at hj;rcases hj with rfl|rfl<;>(rw[←hob];first|rfl|(simp only[Kz,clC,List.length_append];rfl))) (fun j _ hj=>QaR hj) (fun j _ hj=>by simp only[List.mem_cons,List.not_mem_nil,or_false,not_or] at hj;repeat (first|rfl|rw[Qe _ _ (by unfold bg;omega)])))
  refine zf ?_;change AN _ _ _ _ _ _ _ _;refine Yf [16,19] (by kernel_rfl) rfl ⟨.inr (.inl (Q5 rfl rfl rfl rfl (by simp[QT]) c.lrn.length rfl (by simp[QT]) rfl rfl rfl rfl (Wc rfl) rfl rfl rfl Qal ?_)),.inr (.inl (Xs rfl rfl rfl rfl rfl (QP rfl (by simp[QT])) rfl (Nat.le_of_ble_eq_true rfl) rfl rfl rfl rfl ?_)),trivial⟩
  ·change AN _ _ _ _ _ _ _ _;refine Yf [19] (by kernel_rfl) rfl ⟨.inr (.inl (Xs rfl rfl rfl rfl rfl (QP rfl (by simp[QT])) rfl (Nat.le_of_ble_eq_true rfl) rfl rfl rfl rfl ?_)),trivial⟩;change AN _ _ _ _ _ _ _ _;refine QaL (by kernel_rfl) ?_;change (Xz _ _).ntt=_∧_
   exact Ya rfl rfl rfl rfl rfl Xb hok QeT (Xn.chg (Xn.self Xb) [0,5] (fun j hj ob hob=>by simp only[List.mem_cons,List.not_mem_nil,or_false] at hj;rcases hj with rfl|rfl<;>(rw[←hob];first|rfl|(simp only[Kz,clC,List.length_append];rfl))) (fun j _ hj=>QaR hj) (fun j _ hj=>by simp only[List.mem_cons,List.not_mem_nil,or_false,not_or] at hj;repeat (first|rfl|rw[Qe _ _ (by unfold bg;omega)])))
  change AN _ _ _ _ _ _ _ _;refine Yf [16] (by kernel_rfl) rfl ⟨.inr (.inl (Q5 rfl rfl rfl rfl (by simp[QT]) c.lrn.length rfl (by simp[QT]) rfl rfl rfl rfl (Wc rfl) rfl rfl rfl Qal ?_)),trivial⟩;change AN _ _ _ _ _ _ _ _;refine QaL (by kernel_rfl) ?_;change (Xz _ _).ntt=_∧_
  exact Ya rfl rfl rfl rfl rfl Xb hok QeT (Xn.chg (Xn.self Xb) [0,5] (fun j hj ob hob=>by simp only[List.mem_cons,List.not_mem_nil,or_false] at hj;rcases hj with rfl|rfl<;>(rw[←hob];first|rfl|(simp only[Kz,clC,List.length_append];rfl))) (fun j _ hj=>QaR hj) (fun j _ hj=>by simp only[List.mem_cons,List.not_mem_nil,or_false,not_or] at hj;repeat (first|rfl|rw[Qe _ _ (by unfold bg;omega)])))
 refine Yy ?_;change AN _ _ _ _ _ _ _ _;refine Yf [15,18] (by kernel_rfl) rfl ⟨.inl (QG rfl ?_),.inl (QG rfl ?_),trivial⟩
 ·refine zp (QU rfl rfl rfl rfl (by simp[QT]) c.lrn.length rfl (by simp[QT])) ?_;change AN _ _ _ _ _ _ _ _;refine Yf [16,18] (by kernel_rfl) rfl ⟨.inr (.inl (Q5 rfl rfl rfl rfl (by simp[QT]) c.lrn.length rfl (by simp[QT]) rfl rfl rfl rfl (Wc rfl) rfl rfl rfl Qal ?_)),.inl (QG rfl ?_),trivial⟩
  ·change AN _ _ _ _ _ _ _ _;refine Yf [18] (by kernel_rfl) rfl ⟨.inl (QG rfl ?_),trivial⟩;refine zf ?_;change AN _ _ _ _ _ _ _ _;refine Yf [19] (by kernel_rfl) rfl ⟨.inr (.inl (Xs rfl rfl rfl rfl rfl (QP rfl (by simp[QT])) rfl (Nat.le_of_ble_eq_true rfl) rfl rfl rfl rfl ?_)),trivial⟩;change AN _ _ _ _ _ _ _ _;refine QaL (by kernel_rfl) ?_;change (Xz _ _).ntt=_∧_
   exact Ya rfl rfl rfl rfl rfl Xb hok QeT (Xn.chg (Xn.self Xb) [0,5] (fun j hj ob hob=>by simp only[List.mem_cons,List.not_mem_nil,or_false] at hj;rcases hj with rfl|rfl<;>(rw[←hob];first|rfl|(simp only[Kz,clC,List.length_append];rfl))) (fun j _ hj=>QaR hj) (fun j _ hj=>by simp only[List.mem_cons,List.not_mem_nil,or_false,not_or] at hj;repeat (first|rfl|rw[Qe _ _ (by unfold bg;omega)])))
  refine zf ?_;change AN _ _ _ _ _ _ _ _;refine Yf [16,19] (by kernel_rfl) rfl ⟨.inr (.inl (Q5 rfl rfl rfl rfl (by simp[QT]) c.lrn.length rfl (by simp[QT]) rfl rfl rfl rfl (Wc rfl) rfl rfl rfl Qal ?_)),.inr (.inl (Xs rfl rfl rfl rfl rfl (QP rfl (by simp[QT])) rfl (Nat.le_of_ble_eq_true rfl) rfl rfl rfl rfl ?_)),trivial⟩
  ·change AN _ _ _ _ _ _ _ _;refine Yf [19] (by kernel_rfl) rfl ⟨.inr (.inl (Xs rfl rfl rfl rfl rfl (QP rfl (by simp[QT])) rfl (Nat.le_of_ble_eq_true rfl) rfl rfl rfl rfl ?_)),trivial⟩;change AN _ _ _ _ _ _ _ _;refine QaL (by kernel_rfl) ?_;change (Xz _ _).ntt=_∧_
   exact Ya rfl rfl rfl rfl rfl Xb hok QeT (Xn.chg (Xn.self Xb) [0,5] (fun j hj ob hob=>by simp only[List.mem_cons,List.not_mem_nil,or_false] at hj;rcases hj with rfl|rfl<;>(rw[←hob];first|rfl|(simp only[Kz,clC,List.length_append];rfl))) (fun j _ hj=>QaR hj) (fun j _ hj=>by simp only[List.mem_cons,List.not_mem_nil,or_false,not_or] at hj;repeat (first|rfl|rw[Qe _ _ (by unfold bg;omega)])))
  change AN _ _ _ _ _ _ _ _;refine Yf [16] (by kernel_rfl) rfl ⟨.inr (.inl (Q5 rfl rfl rfl rfl (by simp[QT]) c.lrn.length rfl (by simp[QT]) rfl rfl rfl rfl (Wc rfl) rfl rfl rfl Qal ?_)),trivial⟩;change AN _ _ _ _ _ _ _ _;refine QaL (by kernel_rfl) ?_;change (Xz _ _).ntt=_∧_
  exact Ya rfl rfl rfl rfl rfl Xb hok QeT (Xn.chg (Xn.self Xb) [0,5] (fun j hj ob hob=>by simp only[List.mem_cons,List.not_mem_nil,or_false] at hj;rcases hj with rfl|rfl<;>(rw[←hob];first|rfl|(simp only[Kz,clC,List.length_append];rfl))) (fun j _ hj=>QaR hj) (fun j _ hj=>by simp only[List.mem_cons,List.not_mem_nil,or_false,not_or] at hj;repeat (first|rfl|rw[Qe _ _ (by unfold bg;omega)])))
 refine zf ?_;change AN _ _ _ _ _ _ _ _;refine Yf [15,19] (by kernel_rfl) rfl ⟨.inl (QG rfl ?_),.inr (.inl (Xs rfl rfl rfl rfl rfl (QP rfl (by simp[QT])) rfl (Nat.le_of_ble_eq_true rfl) rfl rfl rfl rfl ?_)),trivial⟩
 ·refine zp (QU rfl rfl rfl rfl (by simp[QT]) c.lrn.length rfl (by simp[QT])) ?_;change AN _ _ _ _ _ _ _ _;refine Yf [16,19] (by kernel_rfl) rfl ⟨.inr (.inl (Q5 rfl rfl rfl rfl (by simp[QT]) c.lrn.length rfl (by simp[QT]) rfl rfl rfl rfl (Wc rfl) rfl rfl rfl Qal ?_)),.inr (.inl (Xs rfl rfl rfl rfl rfl (QP rfl (by simp[QT])) rfl (Nat.le_of_ble_eq_true rfl) rfl rfl rfl rfl ?_)),trivial⟩
  ·change AN _ _ _ _ _ _ _ _;refine Yf [19] (by kernel_rfl) rfl ⟨.inr (.inl (Xs rfl rfl rfl rfl rfl (QP rfl (by simp[QT])) rfl (Nat.le_of_ble_eq_true rfl) rfl rfl rfl rfl ?_)),trivial⟩;change AN _ _ _ _ _ _ _ _;refine QaL (by kernel_rfl) ?_;change (Xz _ _).ntt=_∧_
   exact Ya rfl rfl rfl rfl rfl Xb hok QeT (Xn.chg (Xn.self Xb) [0,5] (fun j hj ob hob=>by simp only[List.mem_cons,List.not_mem_nil,or_false] at hj;rcases hj with rfl|rfl<;>(rw[←hob];first|rfl|(simp only[Kz,clC,List.length_append];rfl))) (fun j _ hj=>QaR hj) (fun j _ hj=>by simp only[List.mem_cons,List.not_mem_nil,or_false,not_or] at hj;repeat (first|rfl|rw[Qe _ _ (by unfold bg;omega)])))
  change AN _ _ _ _ _ _ _ _;refine Yf [16] (by kernel_rfl) rfl ⟨.inr (.inl (Q5 rfl rfl rfl rfl (by simp[QT]) c.lrn.length rfl (by simp[QT]) rfl rfl rfl rfl (Wc rfl) rfl rfl rfl Qal ?_)),trivial⟩;change AN _ _ _ _ _ _ _ _;refine QaL (by kernel_rfl) ?_;change (Xz _ _).ntt=_∧_
  exact Ya rfl rfl rfl rfl rfl Xb hok QeT (Xn.chg (Xn.self Xb) [0,5] (fun j hj ob hob=>by simp only[List.mem_cons,List.not_mem_nil,or_false] at hj;rcases hj with rfl|rfl<;>(rw[←hob];first|rfl|(simp only[Kz,clC,List.length_append];rfl))) (fun j _ hj=>QaR hj) (fun j _ hj=>by simp only[List.mem_cons,List.not_mem_nil,or_false,not_or] at hj;repeat (first|rfl|rw[Qe _ _ (by unfold bg;omega)])))
 change AN _ _ _ _ _ _ _ _;refine Yf [15] (by kernel_rfl) rfl ⟨.inl (QG rfl ?_),trivial⟩;refine zp (QU rfl rfl rfl rfl (by simp[QT]) c.lrn.length rfl (by simp[QT])) ?_;change AN _ _ _ _ _ _ _ _;refine Yf [16] (by kernel_rfl) rfl ⟨.inr (.inl (Q5 rfl rfl rfl rfl (by simp[QT]) c.lrn.length rfl (by simp[QT]) rfl rfl rfl rfl (Wc rfl) rfl rfl rfl Qal ?_)),trivial⟩;change AN _ _ _ _ _ _ _ _;refine QaL (by kernel_rfl) ?_;change (Xz _ _).ntt=_∧_
 exact Ya rfl rfl rfl rfl rfl Xb hok QeT (Xn.chg (Xn.self Xb) [0,5] (fun j hj ob hob=>by simp only[List.mem_cons,List.not_mem_nil,or_false] at hj;rcases hj with rfl|rfl<;>(rw[←hob];first|rfl|(simp only[Kz,clC,List.length_append];rfl))) (fun j _ hj=>QaR hj) (fun j _ hj=>by simp only[List.mem_cons,List.not_mem_nil,or_false,not_or] at hj;repeat (first|rfl|rw[Qe _ _ (by unfold bg;omega)])))
def QsF (ks:List Nat):AV→Bool
 | .ptr q _ | .own q _ | .eptr q _ _ | .sl _ (some q)=>ks.contains q
 |x=>QbF x
def QwG (ks:List Nat):AV→Bool
 | .agg cs | .tup cs | .fn _ cs=>cs.all (QsF ks)
 |x=>QsF ks x
theorem Wk {ks:List Nat}{σ:Nat→Nat}(hs:∀q∈ks,σ q=q){x:AV}(h:QsF ks x=true):mp1 σ x=x:=by
 cases x with
 |sl es tk=>cases tk with
  |none=>rfl
  |some q=>simp only[mp1,hs q (List.contains_iff_mem.1 h)]
 |own q n=>simp only[mp1,hs q (List.contains_iff_mem.1 h)]
 |ptr q n=>simp only[mp1,hs q (List.contains_iff_mem.1 h)]
 |eptr q n f=>simp only[mp1,hs q (List.contains_iff_mem.1 h)]
 |_=>rfl
theorem Qad {ks:List Nat}{H:List (Nat×Qj)}(hs:∀q∈ks,(Qb H q).isSome=true){x:AV}(h:QsF ks x=true):KH H x=true:=by
 cases x with
 |sl es tk=>cases tk with
  |none=>rfl
  |some q=>exact hs q (List.contains_iff_mem.1 h)
 |own q n=>exact hs q (List.contains_iff_mem.1 h)
 |ptr q n=>exact hs q (List.contains_iff_mem.1 h)
 |eptr q n f=>exact hs q (List.contains_iff_mem.1 h)
 |agg=>cases h
 |tup=>cases h
 |fn=>cases h
 |_=>rfl
theorem Qgq {ks:List Nat}{σ:Nat→Nat}(hs:∀q∈ks,σ q=q){cs:List AV}(h:cs.all (QsF ks)=true):cs.map (mp1 σ)=cs:=by
 have:∀x∈cs,mp1 σ x=id x:=fun x hx=>Wk hs (List.all_eq_true.1 h x hx)
 rw[List.map_congr_left this,List.map_id]
theorem QqJ {ks:List Nat}{σ:Nat→Nat}(hs:∀q∈ks,σ q=q){x:AV}(h:QwG ks x=true):mpV σ x=x:=by
 cases x with
 |agg cs=>exact congrArg AV.agg (Qgq hs h)
 |tup cs=>exact congrArg AV.tup (Qgq hs h)
 |fn f cs=>exact congrArg (AV.fn f) (Qgq hs h)
 |bot=>exact Wk (x:=.bot) hs h
 |p v=>exact Wk (x:=.p v) hs h
 |emp=>exact Wk (x:=.emp) hs h
 |sl es tk=>exact Wk (x:=.sl es tk) hs h
 |el cs=>exact Wk (x:=.el cs) hs h
 |own o n=>exact Wk (x:=.own o n) hs h
 |ptr o n=>exact Wk (x:=.ptr o n) hs h
 |eptr o n f=>exact Wk (x:=.eptr o n f) hs h
theorem Qu2 {ks:List Nat}{H:List (Nat×Qj)}(hs:∀q∈ks,(Qb H q).isSome=true){x:AV}(h:QwG ks x=true):Qb0 H x=true:=by
 cases x with
 |agg cs=>exact List.all_eq_true.2 fun x hx=>Qad hs (List.all_eq_true.1 h x hx)
 |tup cs=>exact List.all_eq_true.2 fun x hx=>Qad hs (List.all_eq_true.1 h x hx)
 |fn f cs=>exact List.all_eq_true.2 fun x hx=>Qad hs (List.all_eq_true.1 h x hx)
 |bot=>exact Qad (x:=.bot) hs h
 |p v=>exact Qad (x:=.p v) hs h
 |emp=>exact Qad (x:=.emp) hs h
 |sl es tk=>exact Qad (x:=.sl es tk) hs h
 |el cs=>exact Qad (x:=.el cs) hs h
 |own o n=>exact Qad (x:=.own o n) hs h
 |ptr o n=>exact Qad (x:=.ptr o n) hs h
 |eptr o n f=>exact Qad (x:=.eptr o n f) hs h
def Qms (st:St)(ks:List Nat):List (Nat×AV)→Prop
 |[]=>True
 |(i,x)::r=>Qb st.t i=some x∧QwG ks x=true∧Qms st ks r
def Qqd (st:St)(b:Nat):List (Nat×Qj)→Prop
 |[]=>True
 |(o,ob)::r=>Qb st.H o=some ob∧ob.cells.all QbF=true∧Nat.blt o b=true∧Qqd st b r
theorem Qgu {st:St}{ks:List Nat}{σ:Nat→Nat}{H':List (Nat×Qj)}(h1:∀q∈ks,σ q=q)(h2:∀q∈ks,(Qb H' q).isSome=true):∀ {l:List (Nat×AV)},Qms st ks l→Qu9 σ st H' l
 |[],_=>trivial
 |(_,_)::_,⟨a,b,d⟩=>⟨by rw[QqJ h1 b];exact a,Qu2 h2 b,Qgu h1 h2 d⟩
theorem Qjm {st:St}{b nx':Nat}{μ ν:Nat→Nat}(hb:b≤nx')(h:∀j,j<40→b≤μ j∧b≤ν j):∀ {l:List (Nat×Qj)},Qqd st b l→QuE st μ ν nx' l
 |[],_=>trivial
 |(o,_)::_,⟨a,d,e,f⟩=>by
  have e:=Nat.le_of_ble_eq_true e
  exact⟨a,d,fun j hj=>by have:=h j hj;omega,.inl (by omega),Qjm hb h f⟩
theorem Qpl {st:St}{b:Nat}:∀ {l:List (Nat×Qj)},Qqd st b l→∀q∈l.map (·.1),q<b
 |[],_,_,h=>by cases h
 |(_,_)::_,⟨_,_,e,f⟩,q,h=>by
  rw[List.map_cons] at h
  rcases List.mem_cons.1 h with rfl|h
  ·exact Nat.le_of_ble_eq_true e
  exact Qpl f q h
theorem XC {E:X7}{st:St}{l:Qv}{c:Cl}{ν:Nat→Nat}(μ:Nat→Nat)(hμ:Qap μ)(hν:Qap ν)(hc:c.ok)(hcl:Xn st.H l c ν)(pre:List (Nat×Qj)){t':List (Nat×AV)}{nx':Nat}(b:Nat)(hB:nx'≤Qf)(hb:b≤nx')
  (hm:∀j,j<40→μ j<nx'∨Qf≤μ j∧ν j=μ j) (hlo:∀j,j<40→b≤μ j∧b≤ν j) (h0:ν 0=μ 0) (hp:Qqd st b pre) (ht:Qms st (μ 0::pre.map (·.1)) t'):Kj E st ⟨t',pre++KL l c μ,nx'⟩:=by
 have hpl:=Qpl hp
 refine QkL μ hμ hν hc hcl pre hB hm (Qjm hb hlo hp) (Qgu (fun q hq=>?_) (fun q hq=>?_) ht)
 ·rcases List.mem_cons.1 hq with rfl|hq
  ·rw[QiC hμ (by omega)];exact h0
  refine QcH fun j hj e=>?_
  have:=hpl q hq
  have:=(hlo j hj).1
  omega
 rcases List.mem_cons.1 hq with rfl|hq
 ·have hn:Qb pre (μ 0)=none:=W0 fun p hp2 e=>by
   have:=hpl p.1 (List.mem_map_of_mem hp2)
   have:=(hlo 0 (by omega)).1
   omega
  rw[Qcw hn,Jc hμ (by omega)];rfl
 obtain⟨p,hp2,rfl⟩:=List.mem_map.1 hq;obtain⟨x,hx⟩:=Option.isSome_iff_exists.1 (QcK hp2)
 rw[Qcq hx];rfl
theorem Qda {l:Qv}{c:Cl}{ν:Nat→Nat}{q:Nat}(h:∀j,j<40→ν j≠q):Qb (KL l c ν) q=none:=by
 cases hx:Qb (KL l c ν) q with
 |none=>rfl
 |some x=>
  obtain⟨j,hj,e⟩:=YK hx;exact absurd e.symm (h j hj)
theorem Kw {q:Nat}(h:q<Qf):∀j,j<40→bg j≠q:=fun j _ e=>by unfold bg at e;omega
def mμ (b j:Nat):Nat:=if 20≤j∧j<25 then j-20+b else Qf+j
theorem Q6 {b:Nat}(hb:b≤1000):Qap (mμ b):=fun i j hi hj e=>by
 have:Qf=1000000:=rfl
 unfold mμ at e
 split at e<;>split at e<;>omega
def oμ (j:Nat):Nat:=if j=3 then 0 else if 20≤j∧j<25 then j-19 else Qf+j
theorem X8:Qap oμ:=fun i j hi hj e=>by
 have:Qf=1000000:=rfl
 unfold oμ at e
 split at e<;>split at e<;>first|omega|(split at e<;>first|omega|(split at e<;>omega))
theorem Qa5:∀j,j<40→oμ j<6∨Qf≤oμ j:=fun j hj=>by
 unfold oμ
 split
 ·exact .inl (by decide)
 split
 ·exact .inl (by omega)
 exact .inr (Nat.le_add_right _ _)
theorem YI {E:X7}{st:St}{l:Qv}{c:Cl}{ν:Nat→Nat}(hν:Qap ν)(hc:c.ok)(hcl:Xn st.H l c ν)(hm:∀j,j<40→¬oμ j<6→ν j=oμ j){t':List (Nat×AV)}(ht:Qms st [] t'):Kj E st ⟨t',KL l c oμ,6⟩:=by
 have:=QkL (E:=E) oμ X8 hν hc hcl [] (t':=t') (nx':=6) (by decide) (fun j hj=>by
  by_cases h:oμ j<6
  ·exact .inl h
  rcases Qa5 j hj with h2|h2
  ·exact absurd h2 h
  exact .inr ⟨h2,hm j hj h⟩) trivial (Qgu (ks:=[]) (fun q hq=>by cases hq) (fun q hq=>by cases hq) ht)
 exact this
theorem QoR {E:X7}{t:List (Nat×AV)}{H H':List (Nat×Qj)}{nx:Nat}{l:Qv}{cl:Cl}{k:Nat}{r:Nd×Option Pp}(hok:cl.ok)(hk:k<5)(hp:Qd2 l cl k r bg H nx H')(pre:List (Nat×Qj)){t':List (Nat×AV)}(b:Nat)(hbn:b≤nx)(hn:nx+1≤20)(hb:b≤10)(hpre:Qqd ⟨t,H',nx+1⟩ b pre)(ht:Qms ⟨t,H',nx+1⟩ (Qf::pre.map (·.1)) t'):
  Kj E ⟨t,H',nx+1⟩ ⟨t',pre++KL l (cl.setF k r) (mμ 10),20⟩:=by
 obtain⟨z',hz,h1,h2,h3⟩:=hp
 have hi:Qf=1000000:=rfl
 refine XC (mμ 10) (Q6 (by decide)) h2 (Qfq hok) h1 pre b (by decide) (by omega) (fun j hj=>?_) (fun j hj=>?_) ?_ hpre ht
 ·unfold mμ Qcm
  split
  ·exact .inl (by omega)
  rw[if_neg (by omega)];exact .inr ⟨Nat.le_add_right _ _,rfl⟩
 ·unfold mμ Qcm bg
  refine⟨by split<;>omega,?_⟩
  split
  ·rcases hz with rfl|rfl
   ·exact hbn
   show b≤Qf+_;omega
  omega
 unfold mμ Qcm
 rw[if_neg (by omega),if_neg (by omega)];rfl
end Go.Proofs.YtnkkokmmeplbgaaGreat
