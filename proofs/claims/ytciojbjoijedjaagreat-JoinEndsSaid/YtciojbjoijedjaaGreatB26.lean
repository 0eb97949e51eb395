/-
  Plain laws: the top element.
  Contracts: top elements; the law JoinEnds.
-/
import Derived.Test.YtciojbjoijedjaaGreatB21
import Derived.Test.YtciojbjoijedjaaGreatB22
import Derived.Test.YtciojbjoijedjaaGreatA5
namespace Go.Proofs.YtciojbjoijedjaaGreat
open Go.RowKit

mutual
def trivialB : Lat → Bool
 | .mk k lo hi _ ps _ => if k == 2 || k == 3 then lo == hi else if k == 6 || k == 7 || k == 5 then !trivNo ps else false
def trivNo : List Lat → Bool
 | [] => false
 | p :: r => !trivialB p || trivNo r
end
theorem trivNo_any : ∀ l : List Lat, trivNo l = l.any fun p => !trivialB p
 | [] => rfl
 | p :: r => by rw [trivNo, trivNo_any r]; rfl
theorem trivialB_eq (l : Lat) : trivialB l = if l.k == 2 || l.k == 3 then l.lo == l.hi else if l.k == 6 || l.k == 7 || l.k == 5 then !(l.ps.any fun p => !trivialB p) else false := by
 cases l with
 | mk k lo hi nm ps rs => rw [trivialB, trivNo_any]; rfl
def trivHd : List Lat → Bool
 | p :: _ => trivialB p
 | [] => false
/-- the top of maps -/
def mapTop (tr : Bool) (ts : List (Val × Bool)) (nm : List Nm) : Val × Bool := match ts with
 | t :: _ => if tr then (Val.zero, true) else if !t.2 || (nm.length : Int) == 0 then (Val.zero, false) else (.mk 0 nm (nm.map fun _ => t.1) [], true)
 | [] => (Val.zero, false)
mutual
/-- the greatest element, and whether there is one -/
def topV : Lat → Val × Bool
 | .mk k lo hi nm ps _ =>
  if k == 1 then (.mk 1 [] [] [], true)
  else if k == 2 then (.mk hi [] [] [], true)
  else if k == 3 then (.mk lo [] [] [], true)
  else if k == 8 then (.mk 2 [] [] [], true)
  else if k == 4 || k == 10 then (.mk 0 nm [] [], decide ((nm.length : Int) > 0))
  else if k == 9 then (Val.zero, false)
  else if k == 5 then mapTop (trivHd ps) (topVs ps) nm
  else if (topVs ps).all (·.2) then (.mk 0 [] ((topVs ps).map (·.1)) [], true) else (Val.zero, false)
def topVs : List Lat → List (Val × Bool)
 | [] => []
 | p :: r => topV p :: topVs r
end
theorem topVs_map : ∀ l : List Lat, topVs l = l.map topV
 | [] => by simp [topVs]
 | p :: r => by simp only [topVs, List.map_cons]; rw [topVs_map r]
theorem topV_eq (l : Lat) : topV l =
  if l.k == 1 then (.mk 1 [] [] [], true)
  else if l.k == 2 then (.mk l.hi [] [] [], true)
  else if l.k == 3 then (.mk l.lo [] [] [], true)
  else if l.k == 8 then (.mk 2 [] [] [], true)
  else if l.k == 4 || l.k == 10 then (.mk 0 l.nm [] [], decide ((l.nm.length : Int) > 0))
  else if l.k == 9 then (Val.zero, false)
  else if l.k == 5 then mapTop (trivHd l.ps) (l.ps.map topV) l.nm
  else if (l.ps.map topV).all (·.2) then (.mk 0 [] ((l.ps.map topV).map (·.1)) [], true) else (Val.zero, false) := by
 cases l with
 | mk k lo hi nm ps rs => rw [topV, topVs_map]; rfl
def topC (l : Lat) : Val × Int := if checkX l = 0 then (if (topV l).2 then ((topV l).1, 0) else (.zero, 14)) else (.zero, 1)
section
variable {l : Lat}
theorem top_map {q : Lat} (hk : l.k = 5) (hp : l.ps = [q]) : topV l = if trivialB q then (Val.zero, true) else if !(topV q).2 || (l.nm.length : Int) == 0 then (Val.zero, false) else (.mk 0 l.nm (l.nm.map fun _ => (topV q).1) [], true) := by rw [topV_eq, hk, hp]; rfl
theorem top_prod (hk : l.k = 6 ∨ l.k = 7) : topV l = if l.ps.all (fun p => (topV p).2) then (.mk 0 [] (l.ps.map fun p => (topV p).1) [], true) else (Val.zero, false) := by
 rw [topV_eq]
 rcases hk with hk | hk <;> rw [hk] <;> simp [List.all_map, Function.comp_def]
theorem triv_map {q : Lat} (hk : l.k = 5) (hp : l.ps = [q]) : trivialB l = trivialB q := by rw [trivialB_eq, hk, hp]; simp
theorem triv_prod (hk : l.k = 6 ∨ l.k = 7) : trivialB l = l.ps.all trivialB := by
 rw [trivialB_eq]
 rcases hk with hk | hk <;> rw [hk] <;> simp [List.not_any_eq_all_not]
end
/-- where there is but one element -/
theorem triv_s (l : Lat) (hO : OkL l) (ih : ∀ q ∈ l.ps, trivialB q = true → ∀ x, elemB x q = true → x = bottomV q) (ht : trivialB l = true) (a : Val) (ha : elemB a l = true) : a = bottomV l := by
 have hN := bot_N l
 have hnm := bot_nm l
 have hes := bot_es l
 have hps := bot_ps l
 rcases kinds hO with hk | hk | hk | hk | hk | hk | hk | hk | hk | hk
 ·rw [trivialB_eq, hk] at ht; cases ht
 ·obtain ⟨h1, h2, h3⟩ := el_num ha (.inr (.inl hk))
  have hb : l.lo = l.hi := by rw [trivialB_eq, hk] at ht; simpa using ht
  rw [elemB_eq, hk] at ha
  simp [used_iff] at ha
  simp [hk] at hN hps
  exact Val.ext_ (by rw [hN]; omega) (h1.trans hnm.symm) (h2.trans hps.symm) (h3.trans hes.symm)
 ·obtain ⟨h1, h2, h3⟩ := el_num ha (.inr (.inr hk))
  have hb : l.lo = l.hi := by rw [trivialB_eq, hk] at ht; simpa using ht
  rw [elemB_eq, hk] at ha
  simp [used_iff] at ha
  simp [hk] at hN hps
  exact Val.ext_ (by rw [hN]; omega) (h1.trans hnm.symm) (h2.trans hps.symm) (h3.trans hes.symm)
 ·rw [trivialB_eq, hk] at ht; cases ht
 ·obtain ⟨q, hp⟩ := shape_56 hO hk
  obtain ⟨p1, p2, p3, p4, p5, p6⟩ := el_map ha hk hp
  rw [triv_map hk hp] at ht
  have hnil : a.ps = [] := by
   cases hps2 : a.ps with
   | nil => rfl
   | cons x r =>
    have h1 := p6 x (by rw [hps2]; simp)
    exact absurd (ih q (by rw [hp]; simp) ht x h1.1) h1.2
  simp [hk] at hN hps
  refine Val.ext_ (p1.trans hN.symm) ?_ (hnil.trans hps.symm) (p2.trans hes.symm)
  rw [hnm]
  exact List.eq_nil_of_length_eq_zero (by rw [p3, hnil]; rfl)
 ·obtain ⟨p1, p2, p3, p4, p5⟩ := el_prod ha (.inl hk)
  rw [triv_prod (.inl hk), List.all_eq_true] at ht
  simp [hk] at hN hps
  refine Val.ext_ (p1.trans hN.symm) (p2.trans hnm.symm) ?_ (p3.trans hes.symm)
  rw [hps]
  apply List.ext_getElem (by simp [p4])
  intro i h1 h2
  have hq : l.ps[i]? = some l.ps[i] := List.getElem?_eq_getElem (by omega)
  rw [List.getElem_map]
  exact ih _ (List.mem_of_getElem? hq) (ht _ (List.mem_of_getElem? hq)) _ (elemZ_get p5 (List.getElem?_eq_getElem h1) hq)
 ·obtain ⟨p1, p2, p3, p4, p5⟩ := el_prod ha (.inr hk)
  rw [triv_prod (.inr hk), List.all_eq_true] at ht
  simp [hk] at hN hps
  refine Val.ext_ (p1.trans hN.symm) (p2.trans hnm.symm) ?_ (p3.trans hes.symm)
  rw [hps]
  apply List.ext_getElem (by simp [p4])
  intro i h1 h2
  have hq : l.ps[i]? = some l.ps[i] := List.getElem?_eq_getElem (by omega)
  rw [List.getElem_map]
  exact ih _ (List.mem_of_getElem? hq) (ht _ (List.mem_of_getElem? hq)) _ (elemZ_get p5 (List.getElem?_eq_getElem h1) hq)
 ·rw [trivialB_eq, hk] at ht; cases ht
 ·rw [trivialB_eq, hk] at ht; cases ht
 ·rw [trivialB_eq, hk] at ht; cases ht
theorem triv_one (l : Lat) (hO : OkL l) (ht : trivialB l = true) (a : Val) (ha : elemB a l = true) : a = bottomV l := triv_s l hO (fun q hq h x hx => triv_one q (hO.part q hq) h x hx) ht a ha
termination_by l
decreasing_by exact Lat.sizeOf_ps ‹_›

structure TopOk (l : Lat) : Prop where
 el : elemB (topV l).1 l = true
 ge : ∀ a, elemB a l = true → leqB l a (topV l).1 = true
 ne : trivialB l = false → (topV l).1 ≠ bottomV l
theorem top_s (l : Lat) (hO : OkL l) (ih : ∀ q ∈ l.ps, (topV q).2 = true → TopOk q) (ht : (topV l).2 = true) : TopOk l := by
 have hN := bot_N l
 have hnm := bot_nm l
 have hps := bot_ps l
 have hr := ranges_ok hO
 have mk : ∀ {T : Val}, topV l = (T, true) → elemB T l = true → (∀ a, elemB a l = true → leqB l a T = true) → (trivialB l = false → T ≠ bottomV l) → TopOk l := fun {T} hE h1 h2 h3 => ⟨by rw [hE]; exact h1, by rw [hE]; exact h2, by rw [hE]; exact h3⟩
 have sets : l.k = 4 ∨ l.k = 10 → TopOk l := fun hk => by
  have hE : topV l = (.mk 0 l.nm [] [], decide ((l.nm.length : Int) > 0)) := by rw [topV_eq]; rcases hk with hk | hk <;> rw [hk] <;> rfl
  rw [hE] at ht
  have hl : 0 < l.nm.length := by have := of_decide_eq_true ht; omega
  have h0 : (decide ((l.nm.length : Int) > 0)) = true := ht
  rw [h0] at hE
  obtain ⟨s1, s2, s3⟩ := spell_ok hO
  have ok : ∀ s ∈ l.nm, okName l.nm s = true := fun s hs => by simp [okName, s1 s hs, has_iff.2 hs]
  refine mk hE ?_ (fun a ha => ?_) (fun _ e => ?_)
  ·rcases hk with hk | hk
   ·exact mk_set hk rfl rfl rfl (s2 (by omega)) ok
   ·refine mk_closed hk rfl rfl rfl (s2 (by omega)) ok ?_
    unfold closedB
    rw [List.all_eq_true]
    intro r hr
    simp [okRule, has_iff.2 (s3 r hr).2.2, Val.nm]
  ·obtain ⟨-, -, -, -, p5, -⟩ := el_set ha hk
   refine (lq_set hk).2 fun x hx => ?_
   have h1 := p5 x hx
   simp only [okName, Bool.and_eq_true, Bool.not_eq_true', Bool.and_eq_false_iff, h0, Bool.not_eq_false', Bool.true_eq_false, false_or] at h1
   exact has_iff.1 h1.2
  ·have := congrArg Val.nm e
   rw [hnm] at this
   rw [show (Val.mk 0 l.nm [] []).nm = l.nm from rfl] at this
   rw [this] at hl; exact absurd hl (by decide)
 have prods : l.k = 6 ∨ l.k = 7 → (∀ p ∈ l.ps, TopOk p) ∧ topV l = (.mk 0 [] (l.ps.map fun p => (topV p).1) [], true) := fun hk => by
  have hE := top_prod hk
  by_cases hall : (l.ps.all fun p => (topV p).2) = true
  ·rw [if_pos hall] at hE
   exact ⟨fun p hp => ih p hp (List.all_eq_true.1 hall p hp), hE⟩
  ·rw [if_neg hall] at hE
   rw [hE] at ht; cases ht
 have prodEl : ∀ (hk : l.k = 6 ∨ l.k = 7), elemB (.mk 0 [] (l.ps.map fun p => (topV p).1) []) l = true := fun hk => by
  obtain ⟨h1, -⟩ := prods hk
  refine mk_prod hk rfl rfl rfl (by show (l.ps.map _).length = _; simp) ((elemZ_iff (by show (l.ps.map _).length = _; simp)).2 fun k x q hx hq => ?_)
  have hx : (l.ps.map fun p => (topV p).1)[k]? = some x := hx
  rw [List.getElem?_map, hq] at hx
  cases hx
  exact (h1 q (List.mem_of_getElem? hq)).el
 have prodNe : ∀ (hk : l.k = 6 ∨ l.k = 7), trivialB l = false → Val.mk 0 [] (l.ps.map fun p => (topV p).1) [] ≠ bottomV l := fun hk hf e => by
  obtain ⟨h1, -⟩ := prods hk
  rw [triv_prod hk] at hf
  have : ¬ l.ps.all trivialB = true := by rw [hf]; decide
  rw [List.all_eq_true] at this
  refine this fun p hp => ?_
  cases hp2 : trivialB p
  ·exfalso
   obtain ⟨i, hi⟩ := List.mem_iff_getElem?.1 hp
   have h2 := congrArg Val.ps e
   rw [hps] at h2
   have hk2 : (l.k == 6 || l.k == 7) = true := by rcases hk with hk | hk <;> rw [hk] <;> rfl
   rw [if_pos hk2] at h2
   have h3 := congrArg (·[i]?) (show (l.ps.map fun p => (topV p).1) = l.ps.map bottomV from h2)
   simp only [List.getElem?_map, hi, Option.map_some, Option.some.injEq] at h3
   exact (h1 p hp).ne hp2 h3
  ·rfl
 rcases kinds hO with hk | hk | hk | hk | hk | hk | hk | hk | hk | hk
 ·simp [hk] at hN
  refine mk (by rw [topV_eq, hk]; rfl) (by rw [elemB_eq, hk]; rfl) (fun a ha => ?_) (fun _ e => ?_)
  ·refine (lq_num (.inl hk)).2 ?_
   rw [elemB_eq, hk] at ha
   simp at ha
   show a.N ≤ 1
   rcases ha.2 with h | h <;> omega
  ·have := congrArg Val.N e
   rw [hN] at this; exact absurd this (by decide)
 ·simp [hk] at hN
  refine mk (by rw [topV_eq, hk]; rfl) (by rw [elemB_eq, hk]; simp [used_iff, Val.N, Val.nm, Val.ps, Val.es]; exact decide_eq_true hr) (fun a ha => ?_) (fun hf e => ?_)
  ·refine (lq_num (.inr hk)).2 ?_
   rw [elemB_eq, hk] at ha
   simp at ha
   show a.N ≤ l.hi
   omega
  ·have h1 : l.hi = l.lo := (congrArg Val.N e).trans hN
   rw [trivialB_eq, hk, h1] at hf
   simp at hf
 ·simp [hk] at hN
  refine mk (by rw [topV_eq, hk]; rfl) (by rw [elemB_eq, hk]; simp [used_iff, Val.N, Val.nm, Val.ps, Val.es]; exact decide_eq_true hr) (fun a ha => ?_) (fun hf e => ?_)
  ·refine (lq_min hk).2 ?_
   rw [elemB_eq, hk] at ha
   simp at ha
   show l.lo ≤ a.N
   omega
  ·have h1 : l.lo = l.hi := (congrArg Val.N e).trans hN
   rw [trivialB_eq, hk, h1] at hf
   simp at hf
 ·exact sets (.inl hk)
 ·obtain ⟨q, hp⟩ := shape_56 hO hk
  have mq : q ∈ l.ps := by rw [hp]; simp
  have oq := hO.part q mq
  have hE := top_map hk hp
  cases htr : trivialB q with
  | true =>
   rw [htr, if_pos rfl] at hE
   have hz : elemB Val.zero l = true := by
    have := bot_elem l hO
    have e : bottomV l = Val.zero := Val.ext_ (by rw [hN, hk]; rfl) hnm (by rw [hps, hk]; rfl) (bot_es l)
    rw [e] at this; exact this
   have e : bottomV l = Val.zero := Val.ext_ (by rw [hN, hk]; rfl) hnm (by rw [hps, hk]; rfl) (bot_es l)
   refine mk hE hz (fun a ha => ?_) (fun hf => ?_)
   ·rw [triv_one l hO (by rw [triv_map hk hp]; exact htr) a ha, e]
    exact leq_refl l hO _ hz
   ·rw [triv_map hk hp, htr] at hf; cases hf
  | false =>
   rw [htr, if_neg (by decide)] at hE
   by_cases hc : (!(topV q).2 || (l.nm.length : Int) == 0) = true
   ·rw [if_pos hc] at hE
    rw [hE] at ht; cases ht
   ·rw [if_neg hc] at hE
    simp only [Bool.or_eq_true, Bool.not_eq_true', beq_iff_eq, not_or, Bool.not_eq_false] at hc
    have T := ih q mq hc.1
    obtain ⟨s1, s2, s3⟩ := spell_ok hO
    have h0 : decide ((l.nm.length : Int) > 0) = true := decide_eq_true (by omega)
    have ok : ∀ s ∈ l.nm, okName l.nm s = true := fun s hs => by simp [okName, s1 s hs, has_iff.2 hs]
    have hl : l.nm.length = (l.nm.map fun _ => (topV q).1).length := by simp
    have jl : (Val.mk 0 l.nm (l.nm.map fun _ => (topV q).1) []).nm.length = (Val.mk 0 l.nm (l.nm.map fun _ => (topV q).1) []).ps.length := hl
    have js : sortedB (Val.mk 0 l.nm (l.nm.map fun _ => (topV q).1) []).nm = true := s2 (by omega)
    refine mk hE (mk_map hk hp rfl rfl jl js ok fun p hp2 => ?_) (fun a ha => ?_) (fun _ e => ?_)
    ·obtain ⟨s, -, rfl⟩ := List.mem_map.1 (show p ∈ l.nm.map fun _ => (topV q).1 from hp2)
     exact ⟨T.el, T.ne htr⟩
    ·obtain ⟨p1, p2, p3, p4, p5, p6⟩ := el_map ha hk hp
     refine (lq_map hk hp p3 jl js).2 fun i s p hs hpp => ?_
     have h1 := p5 s (List.mem_of_getElem? hs)
     simp only [okName, Bool.and_eq_true, Bool.not_eq_true', Bool.and_eq_false_iff, h0, Bool.not_eq_false', Bool.true_eq_false, false_or] at h1
     obtain ⟨j, hj⟩ := List.mem_iff_getElem?.1 (has_iff.1 h1.2)
     exact ⟨j, (topV q).1, hj, by show (l.nm.map _)[j]? = _; rw [List.getElem?_map, hj]; rfl, T.ge p (p6 p (List.mem_of_getElem? hpp)).1⟩
    ·have h2 : l.nm = [] := (congrArg Val.nm e).trans hnm
     rw [h2] at hc; exact hc.2 rfl
 ·obtain ⟨h1, hE⟩ := prods (.inl hk)
  refine mk hE (prodEl (.inl hk)) (fun a ha => ?_) (prodNe (.inl hk))
  obtain ⟨-, -, -, p4, p5⟩ := el_prod ha (.inl hk)
  rw [lq_prod hk]
  refine leqZ_at p4 (by show (l.ps.map _).length = _; simp) fun k q x z hq hx hz => ?_
  have hz : (l.ps.map fun p => (topV p).1)[k]? = some z := hz
  rw [List.getElem?_map, hq] at hz
  cases hz
  exact (h1 q (List.mem_of_getElem? hq)).ge x (elemZ_get p5 hx hq)
 ·obtain ⟨h1, hE⟩ := prods (.inr hk)
  obtain ⟨p, q, hp⟩ := shape_72 hO.shape hk
  refine mk hE (prodEl (.inr hk)) (fun a ha => ?_) (prodNe (.inr hk))
  obtain ⟨x1, x2, ea, u1, u2⟩ := two_of ha hk hp
  have et : (Val.mk 0 [] (l.ps.map fun p => (topV p).1) []).ps = [(topV p).1, (topV q).1] := by show l.ps.map _ = _; rw [hp]; rfl
  refine (lq_lex hk hp ea et).2 ?_
  by_cases e : x1 = (topV p).1
  ·exact .inl ⟨e, (h1 q (by rw [hp]; simp)).ge x2 u2⟩
  ·exact .inr ⟨e, (h1 p (by rw [hp]; simp)).ge x1 u1⟩
 ·simp [hk] at hN
  refine mk (by rw [topV_eq, hk]; rfl) (by rw [elemB_eq, hk]; rfl) (fun a ha => (lq_flat hk).2 (.inr (.inl rfl))) (fun _ e => ?_)
  have := congrArg Val.N e
  rw [hN] at this; exact absurd this (by decide)
 ·have hE : topV l = (Val.zero, false) := by rw [topV_eq, hk]; rfl
  rw [hE] at ht; cases ht
 ·exact sets (.inr hk)
theorem top_ok (l : Lat) (hO : OkL l) (ht : (topV l).2 = true) : TopOk l := top_s l hO (fun q hq h => top_ok q (hO.part q hq) h) ht
termination_by l
decreasing_by exact Lat.sizeOf_ps ‹_›
end Go.Proofs.YtciojbjoijedjaaGreat

namespace Go.Proofs.YtciojbjoijedjaaGreat
open Go.RowKit
set_option maxRecDepth 100000 in
set_option maxHeartbeats 1000000 in
theorem triv1_fc (q : Lat) (h : FC Tryz.prog 101 [.agg (latL q)] (bl (trivialB q))) : FC Tryz.prog 142 [.agg (latL q)] (bl (!trivialB q)) := by
 refine fc_of_awp [2] Tryz.func142 rfl rfl 6 Tryz.ntmps142 (Nat.le_of_ble_eq_true rfl) ?_
 intro E hN
 refine zG ?_
 refine zX hN ?_
 refine zS hN ?_
 refine zA ?_
 refine zL hN ?_
 refine zP hN (q_call h rfl rfl rfl) ?_
 refine zP hN (q_not rfl rfl) ?_
 refine zS hN ?_
 refine zQ ?_
 rfl
set_option maxRecDepth 100000 in
set_option maxHeartbeats 1000000 in
theorem trivial_s (l : Lat) (ih : ∀ q ∈ l.ps, FC Tryz.prog 101 [.agg (latL q)] (bl (trivialB q))) : FC Tryz.prog 101 [.agg (latL l)] (bl (trivialB l)) := by
 refine fc_of_awp [2] Tryz.func101 rfl rfl 21 Tryz.ntmps101 (Nat.le_of_ble_eq_true rfl) ?_
 intro E hN
 refine zG ?_
 refine zX hN ?_
 refine zS hN ?_
 refine zN ?_
 refine awp_seq ?_
 refine zG ?_
 refine zF hN ?_
 refine zL hN ?_
 refine zN ?_
 refine awp_block ?_
 refine awp_seq ?_
 refine zG ?_
 refine zB hN ?_
 refine zS hN ?_
 refine zN ?_
 refine c_cond rfl (fun h5 => ?_) (fun h5 => ?_)
 ·
  refine awp_skip ?_
  change AWP _ _ _ _ _
  refine c_true rfl h5 ?_
  refine zG ?_
  refine zF hN ?_
  refine zL hN ?_
  refine zF hN ?_
  refine zL hN ?_
  refine zB hN ?_
  refine zS hN ?_
  refine zQ ?_
  exact retB (by rw [trivialB_eq]; simp_all)
 ·
  refine awp_region ?_
  refine zB hN ?_
  refine zS hN ?_
  refine zN ?_
  refine c_cond rfl (fun h11 => ?_) (fun h11 => ?_)
  ·
   refine zG ?_
   refine zF hN ?_
   refine zL hN ?_
   refine zF hN ?_
   refine zL hN ?_
   refine zB hN ?_
   refine zS hN ?_
   refine zQ ?_
   exact retB (by rw [trivialB_eq]; simp_all)
  ·
   refine awp_seq ?_
   refine zG ?_
   refine zB hN ?_
   refine zS hN ?_
   refine zN ?_
   refine c_cond rfl (fun h17 => ?_) (fun h17 => ?_)
   ·
    refine awp_skip ?_
    change AWP _ _ _ _ _
    refine c_true rfl h17 ?_
    refine zG ?_
    refine zF hN ?_
    refine zL hN ?_
    refine zP hN (q_call (anyFL_fc (q := fun p => !trivialB p) l.ps (fun y hy => triv1_fc y (ih y hy))) rfl rfl rfl) ?_
    refine zP hN (q_not rfl rfl) ?_
    refine zS hN ?_
    refine zQ ?_
    exact retB (by rw [trivialB_eq]; simp_all)
   ·
    refine zG ?_
    refine zB hN ?_
    refine zS hN ?_
    refine zN ?_
    refine c_cond rfl (fun h21 => ?_) (fun h21 => ?_)
    ·
     refine awp_skip ?_
     change AWP _ _ _ _ _
     refine c_true rfl h21 ?_
     refine zG ?_
     refine zF hN ?_
     refine zL hN ?_
     refine zP hN (q_call (anyFL_fc (q := fun p => !trivialB p) l.ps (fun y hy => triv1_fc y (ih y hy))) rfl rfl rfl) ?_
     refine zP hN (q_not rfl rfl) ?_
     refine zS hN ?_
     refine zQ ?_
     exact retB (by rw [trivialB_eq]; simp_all)
    ·
     refine awp_region ?_
     refine zB hN ?_
     refine zS hN ?_
     refine zN ?_
     refine c_cond rfl (fun h25 => ?_) (fun h25 => ?_)
     ·
      refine zG ?_
      refine zF hN ?_
      refine zL hN ?_
      refine zP hN (q_call (anyFL_fc (q := fun p => !trivialB p) l.ps (fun y hy => triv1_fc y (ih y hy))) rfl rfl rfl) ?_
      refine zP hN (q_not rfl rfl) ?_
      refine zS hN ?_
      refine zQ ?_
      exact retB (by rw [trivialB_eq]; simp_all)
     ·
      refine awp_skip ?_
      change AWP _ _ _ _  _
      refine zG ?_
      refine zS hN ?_
      refine zQ ?_
      exact retB (by rw [trivialB_eq]; simp_all)
theorem trivial_fc (l : Lat) : FC Tryz.prog 101 [.agg (latL l)] (bl (trivialB l)) := trivial_s l (fun q hq => trivial_fc q)
termination_by l
decreasing_by exact Lat.sizeOf_ps ‹_›
theorem rep_step {α β : Type} (f : β → α) {l : List β} {k : Nat} {x : β} (h : l[k]? = some x) : (l.take (k + 1)).map f = (l.take k).map f ++ [f x] := by rw [List.take_add_one, h]; simp
theorem val_step {β : Type} (f : β → Val) {l : List β} {k : Nat} {x : β} (h : l[k]? = some x) : (((l.take k).map f).map valC) ++ chunkA 4 1 (valL (f x)) = (((l.take (k + 1)).map f).map valC) := by
 have : chunkA 4 1 (valL (f x)) = [valC (f x)] := by rw [valC_eq]; rfl
 rw [this, List.take_add_one, h]; simp
theorem nm_small {l : Lat} (hO : OkL l) : l.nm.length ≤ 64 := by
 have h := hO.four.1
 unfold limitsX whenE at h
 by_cases hg : (l.nm.length : Int) > mostN l.k
 ·simp [hg] at h
 ·unfold mostN at hg
  split at hg
  ·omega
  ·split at hg <;> omega
theorem vals_1 (a : Val) : chunkA 4 1 [i64 a.N, svs a.nm, vals a.ps, ens a.es] = [a].map valC := by
 show [valL a] = _
 simp [valC_eq]
theorem bot_fc (l : Lat) (hc : checkX l = 0) : FC Tryz.prog 38 [.agg (latL l)] (.tup [.agg (valL (bottomV l)), i64 0]) := by
 have h := Bottom_fc l
 rw [bottomC, if_pos hc] at h
 exact h
set_option maxRecDepth 100000 in
set_option maxHeartbeats 1000000 in
theorem top_s2 (l : Lat) (hO : OkL l) (ih : ∀ q ∈ l.ps, FC Tryz.prog 63 [.agg (latL q)] (.tup [.agg (valL (topV q).1), bl (topV q).2])) : FC Tryz.prog 63 [.agg (latL l)] (.tup [.agg (valL (topV l).1), bl (topV l).2]) := by
 have npl := hO.small
 have nnm := nm_small hO
 refine fc_of_awpR [.c 2 30 4 true, .t 3] ⟨⟨inferInstance, rfl⟩, trivial⟩ Tryz.func63 rfl rfl 121 Tryz.ntmps63 (Nat.le_of_ble_eq_true rfl) ?_
 intro E hN
 refine zG ?_
 refine zX hN ?_
 refine zO hN ?_
 refine zS hN ?_
 refine zA ?_
 refine zO hN ?_
 refine zN ?_
 refine awp_seq ?_
 refine zG ?_
 refine zF hN ?_
 refine zL hN ?_
 refine zN ?_
 refine awp_block ?_
 refine zG ?_
 refine zB hN ?_
 refine zS hN ?_
 refine zN ?_
 refine c_cond rfl (fun h7 => ?_) (fun h7 => ?_)
 ·
  have hk : l.k = 1 := by simpa using h7
  have hE : topV l = (.mk 1 [] [] [], true) := by rw [topV_eq, hk]; rfl
  refine awp_region ?_
  refine zF hN ?_
  refine zC ?_
  refine aops_nil ?_
  change AWP _ _ _ _  _
  refine zG ?_
  refine zL hN ?_
  refine zC ?_
  refine zS hN ?_
  refine zN ?_
  refine awp_ret ?_
  change (resY _ _).bind AV.fzt = some _
  refine ret_r rfl ?_
  rw [hE]; rfl
 ·
  refine zG ?_
  refine zB hN ?_
  refine zS hN ?_
  refine zN ?_
  refine c_cond rfl (fun h12 => ?_) (fun h12 => ?_)
  ·
   have hk : l.k = 2 := by simpa using h12
   have hE : topV l = (.mk l.hi [] [] [], true) := by rw [topV_eq, hk]; rfl
   refine awp_region ?_
   refine zF hN ?_
   refine zL hN ?_
   refine zF hN ?_
   refine zC ?_
   refine aops_nil ?_
   change AWP _ _ _ _  _
   refine zG ?_
   refine zL hN ?_
   refine zC ?_
   refine zS hN ?_
   refine zN ?_
   refine awp_ret ?_
   change (resY _ _).bind AV.fzt = some _
   refine ret_r rfl ?_
   rw [hE]; rfl
  ·
   refine zG ?_
   refine zB hN ?_
   refine zS hN ?_
   refine zN ?_
   refine c_cond rfl (fun h19 => ?_) (fun h19 => ?_)
   ·
    have hk : l.k = 3 := by simpa using h19
    have hE : topV l = (.mk l.lo [] [] [], true) := by rw [topV_eq, hk]; rfl
    refine awp_region ?_
    refine zF hN ?_
    refine zL hN ?_
    refine zF hN ?_
    refine zC ?_
    refine aops_nil ?_
    change AWP _ _ _ _  _
    refine zG ?_
    refine zL hN ?_
    refine zC ?_
    refine zS hN ?_
    refine zN ?_
    refine awp_ret ?_
    change (resY _ _).bind AV.fzt = some _
    refine ret_r rfl ?_
    rw [hE]; rfl
   ·
    refine zG ?_
    refine zB hN ?_
    refine zS hN ?_
    refine zN ?_
    refine c_cond rfl (fun h26 => ?_) (fun h26 => ?_)
    ·
     have hk : l.k = 8 := by simpa using h26
     have hE : topV l = (.mk 2 [] [] [], true) := by rw [topV_eq, hk]; rfl
     refine awp_region ?_
     refine zF hN ?_
     refine zC ?_
     refine aops_nil ?_
     change AWP _ _ _ _  _
     refine zG ?_
     refine zL hN ?_
     refine zC ?_
     refine zS hN ?_
     refine zN ?_
     refine awp_ret ?_
     change (resY _ _).bind AV.fzt = some _
     refine ret_r rfl ?_
     rw [hE]; rfl
    ·
     refine c_cut (⟨[(1, .ptr 0 0), (2, .ptr 1 0), (4, .ptr 2 0), (14, i64 l.k), (31, bl (l.k == 4 || l.k == 10))], [(0, .var 26 (latL l)), (1, .var 30 [i64 0, .p (.slice none 0 0), .p (.slice none 0 0), .p (.slice none 0 0)]), (2, .var 30 [i64 0, .p (.slice none 0 0), .p (.slice none 0 0), .p (.slice none 0 0)])], 3⟩) ?_ ?_
     ·
      refine zG ?_
      refine zB hN ?_
      refine zS hN ?_
      refine zN ?_
      refine c_cond rfl (fun h31 => ?_) (fun h31 => ?_)
      ·
       refine awp_skip ?_
       exact weak_scrub' rfl ⟨rfl, rfl, rfl, rfl, rfl, rfl, rfl, rfl, (cgB (by simp_all)), rfl, trivial⟩ ⟨rfl, rfl, rfl, rfl, rfl, rfl, rfl, rfl, rfl, trivial⟩
      ·
       refine awp_region ?_
       refine zB hN ?_
       refine zS hN ?_
       refine aops_nil ?_
       exact weak_scrub' rfl ⟨rfl, rfl, rfl, rfl, rfl, rfl, rfl, rfl, (cgB (by simp_all)), rfl, trivial⟩ ⟨rfl, rfl, rfl, rfl, rfl, rfl, rfl, rfl, rfl, trivial⟩
     ·
      refine c_cond rfl (fun h36 => ?_) (fun h36 => ?_)
      ·
       have hk : l.k = 4 ∨ l.k = 10 := by simpa using h36
       have hE : topV l = (.mk 0 l.nm [] [], decide ((l.nm.length : Int) > 0)) := by rw [topV_eq]; rcases hk with hk | hk <;> rw [hk] <;> rfl
       refine zG ?_
       refine zF hN ?_
       refine zL hN ?_
       refine zP hN (q_call (cloneNm_fc l.nm (by omega)) rfl rfl rfl) ?_
       refine zF hN ?_
       refine zC ?_
       refine zN ?_
       refine awp_seq ?_
       refine awp_orders 7 rfl (by kernel_rfl) ?_
       refine ao_all [0, 1] (by kernel_rfl) rfl ⟨.inl (ao_py rfl ?_), .inl (ao_py rfl ?_), trivial⟩
       ·
        refine zl hN ?_
        change AO _ _ _ _ _ _ _ _
        refine ao_all [1, 5] (by kernel_rfl) rfl ⟨.inl (ao_py rfl ?_), .inr (ao_store rfl rfl rfl rfl rfl rfl rfl (Nat.le_of_ble_eq_true rfl) rfl rfl rfl rfl ?_), trivial⟩
        ·
         refine zf hN ?_
         change AO _ _ _ _ _ _ _ _
         refine ao_all [2, 5] (by kernel_rfl) rfl ⟨.inl (ao_py rfl ?_), .inr (ao_store rfl rfl rfl rfl rfl rfl rfl (Nat.le_of_ble_eq_true rfl) rfl rfl rfl rfl ?_), trivial⟩
         ·
          refine zl hN ?_
          change AO _ _ _ _ _ _ _ _
          refine ao_all [3, 5] (by kernel_rfl) rfl ⟨.inl (ao_py rfl ?_), .inr (ao_store rfl rfl rfl rfl rfl rfl rfl (Nat.le_of_ble_eq_true rfl) rfl rfl rfl rfl ?_), trivial⟩
          ·
           refine ze hN ?_
           change AO _ _ _ _ _ _ _ _
           refine ao_all [4, 5] (by kernel_rfl) rfl ⟨.inl (ao_py rfl ?_), .inr (ao_store rfl rfl rfl rfl rfl rfl rfl (Nat.le_of_ble_eq_true rfl) rfl rfl rfl rfl ?_), trivial⟩
           ·
            refine zp hN (q_bin rfl rfl rfl) ?_
            change AO _ _ _ _ _ _ _ _
            refine ao_all [5] (by kernel_rfl) rfl ⟨.inr (ao_store rfl rfl rfl rfl rfl rfl rfl (Nat.le_of_ble_eq_true rfl) rfl rfl rfl rfl ?_), trivial⟩
            change AO _ _ _ _ _ _ _ _
            refine ao_all [6] (by kernel_rfl) rfl ⟨.inl (ao_py rfl ?_), trivial⟩
            refine zp hN (q_assign rfl rfl) ?_
            change AO _ _ _ _ _ _ _ _
            refine ao_done (by kernel_rfl) ?_
            change AWP _ _ _ _ _
            refine awp_ret ?_
            change (resY _ _).bind AV.fzt = some _
            refine ret_r rfl ?_
            rw [hE, List.length_map]; rfl
           ·
            change AO _ _ _ _ _ _ _ _
            refine ao_all [4] (by kernel_rfl) rfl ⟨.inl (ao_py rfl ?_), trivial⟩
            refine zp hN (q_bin rfl rfl rfl) ?_
            change AO _ _ _ _ _ _ _ _
            refine ao_all [6] (by kernel_rfl) rfl ⟨.inl (ao_py rfl ?_), trivial⟩
            refine zp hN (q_assign rfl rfl) ?_
            change AO _ _ _ _ _ _ _ _
            refine ao_done (by kernel_rfl) ?_
            change AWP _ _ _ _ _
            refine awp_ret ?_
            change (resY _ _).bind AV.fzt = some _
            refine ret_r rfl ?_
            rw [hE, List.length_map]; rfl
          ·
           change AO _ _ _ _ _ _ _ _
           refine ao_all [3] (by kernel_rfl) rfl ⟨.inl (ao_py rfl ?_), trivial⟩
           refine ze hN ?_
           change AO _ _ _ _ _ _ _ _
           refine ao_all [4] (by kernel_rfl) rfl ⟨.inl (ao_py rfl ?_), trivial⟩
           refine zp hN (q_bin rfl rfl rfl) ?_
           change AO _ _ _ _ _ _ _ _
           refine ao_all [6] (by kernel_rfl) rfl ⟨.inl (ao_py rfl ?_), trivial⟩
           refine zp hN (q_assign rfl rfl) ?_
           change AO _ _ _ _ _ _ _ _
           refine ao_done (by kernel_rfl) ?_
           change AWP _ _ _ _ _
           refine awp_ret ?_
           change (resY _ _).bind AV.fzt = some _
           refine ret_r rfl ?_
           rw [hE, List.length_map]; rfl
         ·
          change AO _ _ _ _ _ _ _ _
          refine ao_all [2] (by kernel_rfl) rfl ⟨.inl (ao_py rfl ?_), trivial⟩
          refine zl hN ?_
          change AO _ _ _ _ _ _ _ _
          refine ao_all [3] (by kernel_rfl) rfl ⟨.inl (ao_py rfl ?_), trivial⟩
          refine ze hN ?_
          change AO _ _ _ _ _ _ _ _
          refine ao_all [4] (by kernel_rfl) rfl ⟨.inl (ao_py rfl ?_), trivial⟩
          refine zp hN (q_bin rfl rfl rfl) ?_
          change AO _ _ _ _ _ _ _ _
          refine ao_all [6] (by kernel_rfl) rfl ⟨.inl (ao_py rfl ?_), trivial⟩
          refine zp hN (q_assign rfl rfl) ?_
          change AO _ _ _ _ _ _ _ _
          refine ao_done (by kernel_rfl) ?_
          change AWP _ _ _ _ _
          refine awp_ret ?_
          change (resY _ _).bind AV.fzt = some _
          refine ret_r rfl ?_
          rw [hE, List.length_map]; rfl
        ·
         change AO _ _ _ _ _ _ _ _
         refine ao_all [1] (by kernel_rfl) rfl ⟨.inl (ao_py rfl ?_), trivial⟩
         refine zf hN ?_
         change AO _ _ _ _ _ _ _ _
         refine ao_all [2] (by kernel_rfl) rfl ⟨.inl (ao_py rfl ?_), trivial⟩
         refine zl hN ?_
         change AO _ _ _ _ _ _ _ _
         refine ao_all [3] (by kernel_rfl) rfl ⟨.inl (ao_py rfl ?_), trivial⟩
         refine ze hN ?_
         change AO _ _ _ _ _ _ _ _
         refine ao_all [4] (by kernel_rfl) rfl ⟨.inl (ao_py rfl ?_), trivial⟩
         refine zp hN (q_bin rfl rfl rfl) ?_
         change AO _ _ _ _ _ _ _ _
         refine ao_all [6] (by kernel_rfl) rfl ⟨.inl (ao_py rfl ?_), trivial⟩
         refine zp hN (q_assign rfl rfl) ?_
         change AO _ _ _ _ _ _ _ _
         refine ao_done (by kernel_rfl) ?_
         change AWP _ _ _ _ _
         refine awp_ret ?_
         change (resY _ _).bind AV.fzt = some _
         refine ret_r rfl ?_
         rw [hE, List.length_map]; rfl
       ·
        refine zf hN ?_
        change AO _ _ _ _ _ _ _ _
        refine ao_all [0, 2] (by kernel_rfl) rfl ⟨.inl (ao_py rfl ?_), .inl (ao_py rfl ?_), trivial⟩
        ·
         refine zl hN ?_
         change AO _ _ _ _ _ _ _ _
         refine ao_all [2, 5] (by kernel_rfl) rfl ⟨.inl (ao_py rfl ?_), .inr (ao_store rfl rfl rfl rfl rfl rfl rfl (Nat.le_of_ble_eq_true rfl) rfl rfl rfl rfl ?_), trivial⟩
         ·
          refine zl hN ?_
          change AO _ _ _ _ _ _ _ _
          refine ao_all [3, 5] (by kernel_rfl) rfl ⟨.inl (ao_py rfl ?_), .inr (ao_store rfl rfl rfl rfl rfl rfl rfl (Nat.le_of_ble_eq_true rfl) rfl rfl rfl rfl ?_), trivial⟩
          ·
           refine ze hN ?_
           change AO _ _ _ _ _ _ _ _
           refine ao_all [4, 5] (by kernel_rfl) rfl ⟨.inl (ao_py rfl ?_), .inr (ao_store rfl rfl rfl rfl rfl rfl rfl (Nat.le_of_ble_eq_true rfl) rfl rfl rfl rfl ?_), trivial⟩
           ·
            refine zp hN (q_bin rfl rfl rfl) ?_
            change AO _ _ _ _ _ _ _ _
            refine ao_all [5] (by kernel_rfl) rfl ⟨.inr (ao_store rfl rfl rfl rfl rfl rfl rfl (Nat.le_of_ble_eq_true rfl) rfl rfl rfl rfl ?_), trivial⟩
            change AO _ _ _ _ _ _ _ _
            refine ao_all [6] (by kernel_rfl) rfl ⟨.inl (ao_py rfl ?_), trivial⟩
            refine zp hN (q_assign rfl rfl) ?_
            change AO _ _ _ _ _ _ _ _
            refine ao_done (by kernel_rfl) ?_
            change AWP _ _ _ _ _
            refine awp_ret ?_
            change (resY _ _).bind AV.fzt = some _
            refine ret_r rfl ?_
            rw [hE, List.length_map]; rfl
           ·
            change AO _ _ _ _ _ _ _ _
            refine ao_all [4] (by kernel_rfl) rfl ⟨.inl (ao_py rfl ?_), trivial⟩
            refine zp hN (q_bin rfl rfl rfl) ?_
            change AO _ _ _ _ _ _ _ _
            refine ao_all [6] (by kernel_rfl) rfl ⟨.inl (ao_py rfl ?_), trivial⟩
            refine zp hN (q_assign rfl rfl) ?_
            change AO _ _ _ _ _ _ _ _
            refine ao_done (by kernel_rfl) ?_
            change AWP _ _ _ _ _
            refine awp_ret ?_
            change (resY _ _).bind AV.fzt = some _
            refine ret_r rfl ?_
            rw [hE, List.length_map]; rfl
          ·
           change AO _ _ _ _ _ _ _ _
           refine ao_all [3] (by kernel_rfl) rfl ⟨.inl (ao_py rfl ?_), trivial⟩
           refine ze hN ?_
           change AO _ _ _ _ _ _ _ _
           refine ao_all [4] (by kernel_rfl) rfl ⟨.inl (ao_py rfl ?_), trivial⟩
           refine zp hN (q_bin rfl rfl rfl) ?_
           change AO _ _ _ _ _ _ _ _
           refine ao_all [6] (by kernel_rfl) rfl ⟨.inl (ao_py rfl ?_), trivial⟩
           refine zp hN (q_assign rfl rfl) ?_
           change AO _ _ _ _ _ _ _ _
           refine ao_done (by kernel_rfl) ?_
           change AWP _ _ _ _ _
           refine awp_ret ?_
           change (resY _ _).bind AV.fzt = some _
           refine ret_r rfl ?_
           rw [hE, List.length_map]; rfl
         ·
          change AO _ _ _ _ _ _ _ _
          refine ao_all [2] (by kernel_rfl) rfl ⟨.inl (ao_py rfl ?_), trivial⟩
          refine zl hN ?_
          change AO _ _ _ _ _ _ _ _
          refine ao_all [3] (by kernel_rfl) rfl ⟨.inl (ao_py rfl ?_), trivial⟩
          refine ze hN ?_
          change AO _ _ _ _ _ _ _ _
          refine ao_all [4] (by kernel_rfl) rfl ⟨.inl (ao_py rfl ?_), trivial⟩
          refine zp hN (q_bin rfl rfl rfl) ?_
          change AO _ _ _ _ _ _ _ _
          refine ao_all [6] (by kernel_rfl) rfl ⟨.inl (ao_py rfl ?_), trivial⟩
          refine zp hN (q_assign rfl rfl) ?_
          change AO _ _ _ _ _ _ _ _
          refine ao_done (by kernel_rfl) ?_
          change AWP _ _ _ _ _
          refine awp_ret ?_
          change (resY _ _).bind AV.fzt = some _
          refine ret_r rfl ?_
          rw [hE, List.length_map]; rfl
        ·
         refine zl hN ?_
         change AO _ _ _ _ _ _ _ _
         refine ao_all [0, 3] (by kernel_rfl) rfl ⟨.inl (ao_py rfl ?_), .inl (ao_py rfl ?_), trivial⟩
         ·
          refine zl hN ?_
          change AO _ _ _ _ _ _ _ _
          refine ao_all [3, 5] (by kernel_rfl) rfl ⟨.inl (ao_py rfl ?_), .inr (ao_store rfl rfl rfl rfl rfl rfl rfl (Nat.le_of_ble_eq_true rfl) rfl rfl rfl rfl ?_), trivial⟩
          ·
           refine ze hN ?_
           change AO _ _ _ _ _ _ _ _
           refine ao_all [4, 5] (by kernel_rfl) rfl ⟨.inl (ao_py rfl ?_), .inr (ao_store rfl rfl rfl rfl rfl rfl rfl (Nat.le_of_ble_eq_true rfl) rfl rfl rfl rfl ?_), trivial⟩
           ·
            refine zp hN (q_bin rfl rfl rfl) ?_
            change AO _ _ _ _ _ _ _ _
            refine ao_all [5] (by kernel_rfl) rfl ⟨.inr (ao_store rfl rfl rfl rfl rfl rfl rfl (Nat.le_of_ble_eq_true rfl) rfl rfl rfl rfl ?_), trivial⟩
            change AO _ _ _ _ _ _ _ _
            refine ao_all [6] (by kernel_rfl) rfl ⟨.inl (ao_py rfl ?_), trivial⟩
            refine zp hN (q_assign rfl rfl) ?_
            change AO _ _ _ _ _ _ _ _
            refine ao_done (by kernel_rfl) ?_
            change AWP _ _ _ _ _
            refine awp_ret ?_
            change (resY _ _).bind AV.fzt = some _
            refine ret_r rfl ?_
            rw [hE, List.length_map]; rfl
           ·
            change AO _ _ _ _ _ _ _ _
            refine ao_all [4] (by kernel_rfl) rfl ⟨.inl (ao_py rfl ?_), trivial⟩
            refine zp hN (q_bin rfl rfl rfl) ?_
            change AO _ _ _ _ _ _ _ _
            refine ao_all [6] (by kernel_rfl) rfl ⟨.inl (ao_py rfl ?_), trivial⟩
            refine zp hN (q_assign rfl rfl) ?_
            change AO _ _ _ _ _ _ _ _
            refine ao_done (by kernel_rfl) ?_
            change AWP _ _ _ _ _
            refine awp_ret ?_
            change (resY _ _).bind AV.fzt = some _
            refine ret_r rfl ?_
            rw [hE, List.length_map]; rfl
          ·
           change AO _ _ _ _ _ _ _ _
           refine ao_all [3] (by kernel_rfl) rfl ⟨.inl (ao_py rfl ?_), trivial⟩
           refine ze hN ?_
           change AO _ _ _ _ _ _ _ _
           refine ao_all [4] (by kernel_rfl) rfl ⟨.inl (ao_py rfl ?_), trivial⟩
           refine zp hN (q_bin rfl rfl rfl) ?_
           change AO _ _ _ _ _ _ _ _
           refine ao_all [6] (by kernel_rfl) rfl ⟨.inl (ao_py rfl ?_), trivial⟩
           refine zp hN (q_assign rfl rfl) ?_
           change AO _ _ _ _ _ _ _ _
           refine ao_done (by kernel_rfl) ?_
           change AWP _ _ _ _ _
           refine awp_ret ?_
           change (resY _ _).bind AV.fzt = some _
           refine ret_r rfl ?_
           rw [hE, List.length_map]; rfl
         ·
          refine ze hN ?_
          change AO _ _ _ _ _ _ _ _
          refine ao_all [0, 4] (by kernel_rfl) rfl ⟨.inl (ao_py rfl ?_), .inl (ao_py rfl ?_), trivial⟩
          ·
           refine zl hN ?_
           change AO _ _ _ _ _ _ _ _
           refine ao_all [4, 5] (by kernel_rfl) rfl ⟨.inl (ao_py rfl ?_), .inr (ao_store rfl rfl rfl rfl rfl rfl rfl (Nat.le_of_ble_eq_true rfl) rfl rfl rfl rfl ?_), trivial⟩
           ·
            refine zp hN (q_bin rfl rfl rfl) ?_
            change AO _ _ _ _ _ _ _ _
            refine ao_all [5] (by kernel_rfl) rfl ⟨.inr (ao_store rfl rfl rfl rfl rfl rfl rfl (Nat.le_of_ble_eq_true rfl) rfl rfl rfl rfl ?_), trivial⟩
            change AO _ _ _ _ _ _ _ _
            refine ao_all [6] (by kernel_rfl) rfl ⟨.inl (ao_py rfl ?_), trivial⟩
            refine zp hN (q_assign rfl rfl) ?_
            change AO _ _ _ _ _ _ _ _
            refine ao_done (by kernel_rfl) ?_
            change AWP _ _ _ _ _
            refine awp_ret ?_
            change (resY _ _).bind AV.fzt = some _
            refine ret_r rfl ?_
            rw [hE, List.length_map]; rfl
           ·
            change AO _ _ _ _ _ _ _ _
            refine ao_all [4] (by kernel_rfl) rfl ⟨.inl (ao_py rfl ?_), trivial⟩
            refine zp hN (q_bin rfl rfl rfl) ?_
            change AO _ _ _ _ _ _ _ _
            refine ao_all [6] (by kernel_rfl) rfl ⟨.inl (ao_py rfl ?_), trivial⟩
            refine zp hN (q_assign rfl rfl) ?_
            change AO _ _ _ _ _ _ _ _
            refine ao_done (by kernel_rfl) ?_
            change AWP _ _ _ _ _
            refine awp_ret ?_
            change (resY _ _).bind AV.fzt = some _
            refine ret_r rfl ?_
            rw [hE, List.length_map]; rfl
          ·
           refine zp hN (q_bin rfl rfl rfl) ?_
           change AO _ _ _ _ _ _ _ _
           refine ao_all [0] (by kernel_rfl) rfl ⟨.inl (ao_py rfl ?_), trivial⟩
           refine zl hN ?_
           change AO _ _ _ _ _ _ _ _
           refine ao_all [5] (by kernel_rfl) rfl ⟨.inr (ao_store rfl rfl rfl rfl rfl rfl rfl (Nat.le_of_ble_eq_true rfl) rfl rfl rfl rfl ?_), trivial⟩
           change AO _ _ _ _ _ _ _ _
           refine ao_all [6] (by kernel_rfl) rfl ⟨.inl (ao_py rfl ?_), trivial⟩
           refine zp hN (q_assign rfl rfl) ?_
           change AO _ _ _ _ _ _ _ _
           refine ao_done (by kernel_rfl) ?_
           change AWP _ _ _ _ _
           refine awp_ret ?_
           change (resY _ _).bind AV.fzt = some _
           refine ret_r rfl ?_
           rw [hE, List.length_map]; rfl
      ·
       refine zG ?_
       refine zB hN ?_
       refine zS hN ?_
       refine zN ?_
       refine c_cond rfl (fun h81 => ?_) (fun h81 => ?_)
       ·
        have hk : l.k = 9 := by simpa using h81
        have hE : topV l = (Val.zero, false) := by rw [topV_eq, hk]; rfl
        refine zG ?_
        refine zL hN ?_
        refine zC ?_
        refine zS hN ?_
        refine zN ?_
        refine awp_ret ?_
        change (resY _ _).bind AV.fzt = some _
        refine ret_r rfl ?_
        rw [hE]; rfl
       ·
        refine zG ?_
        refine zB hN ?_
        refine zS hN ?_
        refine zN ?_
        refine c_cond rfl (fun h84 => ?_) (fun h84 => ?_)
        ·
         have hk : l.k = 5 := by simpa using h84
         obtain ⟨q, hps⟩ := shape_56 hO hk
         have hp0 : l.ps[0]? = some q := by rw [hps]; rfl
         have hmt := top_map hk hps
         refine awp_seq ?_
         refine zG ?_
         refine zF hN ?_
         refine zL hN ?_
         refine zP hN (q_elem rfl rfl rfl 0 rfl _ (lat_get hp0) rfl) ?_
         refine zL hN ?_
         refine zP hN (q_call (trivial_fc q) rfl rfl rfl) ?_
         refine zN ?_
         refine c_cond rfl (fun h89 => ?_) (fun h89 => ?_)
         ·
          have h18 : trivialB q = true := h89
          have hE : topV l = (Val.zero, true) := by rw [hmt, if_pos h18]
          refine zG ?_
          refine zL hN ?_
          refine zC ?_
          refine zS hN ?_
          refine zN ?_
          refine awp_ret ?_
          change (resY _ _).bind AV.fzt = some _
          refine ret_r rfl ?_
          rw [hE]; rfl
         ·
          have h18 : trivialB q = false := h89
          refine awp_skip ?_
          change AWP _ _ _ _ _
          refine awp_seq ?_
          refine zG ?_
          refine zF hN ?_
          refine zL hN ?_
          refine zP hN (q_elem rfl rfl rfl 0 rfl _ (lat_get hp0) rfl) ?_
          refine zL hN ?_
          refine zP hN (q_call (ih q (by rw [hps]; simp)) rfl rfl rfl) ?_
          refine zM hN ?_
          refine zP hN (q_extract rfl rfl rfl) ?_
          refine zP hN (q_extract rfl rfl rfl) ?_
          refine zO hN ?_
          refine zC ?_
          refine zS hN ?_
          refine zA ?_
          refine zM hN ?_
          refine zP hN (q_not rfl rfl) ?_
          refine zM hN ?_
          refine s_case 64 rfl (fun h98 => ?_) (fun h98 => ?_)
          ·
           refine s_skip hN rfl (w10 (m0 (n1 h98))) rfl rfl ?_
           refine s_skip hN rfl (w10 (m0 (n1 h98))) rfl rfl ?_
           refine s_skip hN rfl (w10 (m0 (n1 h98))) rfl rfl ?_
           refine s_skip hN rfl (w10 (m0 (n1 h98))) rfl rfl ?_
           refine zP hN (q_pick1 rfl rfl (m0 (n1 h98)) rfl) ?_
           refine zN ?_
           refine c_true rfl rfl ?_
           refine zG ?_
           refine zP hN (q_build rfl rfl rfl) ?_
           refine zC ?_
           refine zS hN ?_
           refine zN ?_
           refine awp_ret ?_
           change (resY _ _).bind AV.fzt = some _
           refine ret_r rfl ?_
           rw [show topV l = (Val.zero, false) by
            rw [hmt, if_neg (by rw [h18]; decide), if_pos (by simp_all)]]; rfl
          ·
           refine s_py hN (q_fieldAddr rfl rfl rfl rfl) rfl (w00 (m1 (n0 h98))) rfl rfl ?_
           refine s_py hN (q_load rfl rfl rfl rfl rfl) rfl (w00 (m1 (n0 h98))) rfl rfl ?_
           refine s_py hN ((by first | exact q_len rfl rfl | exact q_len_str rfl rfl | exact q_len_p rfl rfl)) rfl (w00 (m1 (n0 h98))) rfl rfl ?_
           refine s_py hN (q_bin rfl rfl rfl) rfl (w00 (m1 (n0 h98))) rfl rfl ?_
           refine zP hN (q_pick0 rfl rfl (m1 (n0 h98)) rfl) ?_
           refine zN ?_
           refine c_cond rfl (fun h106 => ?_) (fun h106 => ?_)
           ·
            refine zG ?_
            refine zP hN (q_build rfl rfl rfl) ?_
            refine zC ?_
            refine zS hN ?_
            refine zN ?_
            refine awp_ret ?_
            change (resY _ _).bind AV.fzt = some _
            refine ret_r rfl ?_
            rw [show topV l = (Val.zero, false) by
             rw [hmt, if_neg (by rw [h18]; decide), if_pos (by simp_all)]]; rfl
           ·
            have h21b : (topV q).2 = true ∧ ((l.nm.length : Int) == 0) = false := by simp_all
            have hE : topV l = (.mk 0 l.nm (l.nm.map fun _ => (topV q).1) [], true) := by rw [hmt, if_neg (by rw [h18]; decide), h21b.1, h21b.2]; rfl
            refine awp_skip ?_
            change AWP _ _ _ _ _
            refine zG ?_
            refine zF hN ?_
            refine zL hN ?_
            refine zP hN (q_call (cloneNm_fc l.nm (by omega)) rfl rfl rfl) ?_
            refine zF hN ?_
            refine zC ?_
            refine zA ?_
            refine zF hN ?_
            refine zL hN ?_
            refine zE hN ?_
            refine zM hN ?_
            refine zN ?_
            refine awp_block ?_
            refine awp_weak (weak_tokc rfl 2 2 30 4 rfl rfl rfl) ?_
            refine awp_loop (fun x : {k : Nat // k ≤ (l.nm).length ∧ True} => ⟨[(1, .ptr 0 0), (2, .ptr 1 0), (4, .ptr 2 0), (77, i64 l.nm.length), (78, i64 (x.1 : Nat))], [(0, .var 26 (latL l)), (1, .var 30 [i64 0, .p (.slice none 0 0), .p (.slice none 0 0), .p (.slice none 0 0)]), (2, .var 30 [i64 0, svs l.nm, .sl (((l.nm.take x.1).map (fun _ : Nm => (topV q).1)).map valC) (some 4), .p (.slice none 0 0)]), (4, .tok 30 4 ((l.nm.take x.1).map (fun _ : Nm => (topV q).1)).length)], 5⟩) (fun x => (l.nm).length - x.1) (⟨0, Nat.zero_le _, by simp⟩) ?_ ?_
            ·
             exact weak_scrub' rfl ⟨rfl, rfl, rfl, rfl, rfl, rfl, (cgI (by simp)), rfl, rfl, rfl, trivial⟩ ⟨rfl, rfl, rfl, rfl, rfl, rfl, rfl, rfl, rfl, rfl, rfl, rfl, trivial⟩
            ·rintro ⟨k, hk, hg⟩
             dsimp only
             refine zG ?_
             refine zB hN ?_
             refine zN ?_
             refine awp_seq ?_
             refine c_cond rfl (fun h122 => ?_) (fun h122 => ?_)
             ·
              have hlt : k < (l.nm).length := by simpa using h122
              obtain ⟨x, hx⟩ := get_lt hlt
              refine awp_skip ?_
              change AWP _ _ _ _ _
              refine awp_seq ?_
              refine awp_block ?_
              refine zG ?_
              refine zF hN ?_
              refine zL hN ?_
              refine zP hN (q_elem rfl rfl rfl 0 rfl _ (lat_get hp0) rfl) ?_
              refine zL hN ?_
              refine zP hN (q_call (ih q (by rw [hps]; simp)) rfl rfl rfl) ?_
              refine zM hN ?_
              refine zP hN (q_extract rfl rfl rfl) ?_
              refine zP hN (q_extract rfl rfl rfl) ?_
              refine zO hN ?_
              refine zC ?_
              refine zS hN ?_
              refine zN ?_
              refine awp_region ?_
              refine zF hN ?_
              refine zL hN ?_
              refine zL hN ?_
              refine zP hN (q_bslice rfl rfl rfl rfl (by exact rfl) (by decide) (by decide)) ?_
              refine s_append_tok hN rfl rfl rfl (by simp) rfl rfl (all_okE okE_val _) rfl (by simp [chunk_4]; omega) rfl rfl rfl rfl ?_
              refine zF hN ?_
              refine zC ?_
              refine aops_nil ?_
              change AWP _ _ _ _  _
              refine awp_region ?_
              refine zP hN (q_addi rfl rfl rfl (by omega)) ?_
              refine zM hN ?_
              refine aops_nil ?_
              exact ⟨⟨k + 1, hlt, trivial⟩, weak_scrub' rfl ⟨rfl, rfl, rfl, rfl, rfl, rfl, rfl, rfl, (cgI (by dsimp only; omega)), rfl, trivial⟩ ⟨rfl, rfl, rfl, rfl, rfl, rfl, (cgV (val_step (fun _ : Nm => (topV q).1) hx)), rfl, rfl, (cgT (by rw [rep_step (fun _ : Nm => (topV q).1) hx]; simp [chunk_4])), rfl, rfl, trivial⟩, by dsimp only; omega⟩
             ·
              have hge : (l.nm).length ≤ k := by simpa using h122
              rw [List.take_of_length_le hge]
              refine awp_exit ?_
              change AWP _ _ _ _  _
              refine zG ?_
              refine zL hN ?_
              refine zC ?_
              refine zS hN ?_
              refine zN ?_
              refine awp_ret ?_
              change (resY _ _).bind AV.fzt = some _
              refine ret_r rfl ?_
              rw [hE]; rfl
        ·
         refine c_cut (⟨[(1, .ptr 0 0), (2, .ptr 1 0), (4, .ptr 2 0), (95, bl (l.k == 6 || l.k == 7))], [(0, .var 26 (latL l)), (1, .var 30 [i64 0, .p (.slice none 0 0), .p (.slice none 0 0), .p (.slice none 0 0)]), (2, .var 30 [i64 0, .p (.slice none 0 0), .p (.slice none 0 0), .p (.slice none 0 0)])], 3⟩) ?_ ?_
         ·
          refine zG ?_
          refine zB hN ?_
          refine zS hN ?_
          refine zN ?_
          refine c_cond rfl (fun h142 => ?_) (fun h142 => ?_)
          ·
           refine awp_skip ?_
           exact weak_scrub' rfl ⟨rfl, rfl, rfl, rfl, rfl, rfl, (cgB (by simp_all)), rfl, trivial⟩ ⟨rfl, rfl, rfl, rfl, rfl, rfl, rfl, rfl, rfl, trivial⟩
          ·
           refine awp_region ?_
           refine zB hN ?_
           refine zS hN ?_
           refine aops_nil ?_
           exact weak_scrub' rfl ⟨rfl, rfl, rfl, rfl, rfl, rfl, (cgB (by simp_all)), rfl, trivial⟩ ⟨rfl, rfl, rfl, rfl, rfl, rfl, rfl, rfl, rfl, trivial⟩
         ·
          refine c_cond rfl (fun h147 => ?_) (fun h147 => ?_)
          ·
           have hk : l.k = 6 ∨ l.k = 7 := by simpa using h147
           have hpr := top_prod hk
           refine zG ?_
           refine zF hN ?_
           refine zL hN ?_
           refine zE hN ?_
           refine zM hN ?_
           refine zN ?_
           refine awp_block ?_
           refine awp_weak (weak_tokc rfl 2 2 30 4 rfl rfl rfl) ?_
           refine awp_loop (fun x : {k : Nat // k ≤ (l.ps).length ∧ (l.ps.drop k).all (fun p => (topV p).2) = l.ps.all (fun p => (topV p).2)} => ⟨[(2, .ptr 1 0), (4, .ptr 2 0), (99, lats l.ps), (100, i64 l.ps.length), (101, i64 (x.1 : Nat))], [(1, .var 30 [i64 0, .p (.slice none 0 0), .p (.slice none 0 0), .p (.slice none 0 0)]), (2, .var 30 [i64 0, .p (.slice none 0 0), .sl (((l.ps.take x.1).map (fun p : Lat => (topV p).1)).map valC) (some 3), .p (.slice none 0 0)]), (3, .tok 30 4 ((l.ps.take x.1).map (fun p : Lat => (topV p).1)).length)], 4⟩) (fun x => (l.ps).length - x.1) (⟨0, Nat.zero_le _, by simp⟩) ?_ ?_
           ·
            exact weak_scrub' rfl ⟨rfl, rfl, rfl, rfl, rfl, rfl, (cgI (by simp)), rfl, rfl, rfl, trivial⟩ ⟨rfl, rfl, rfl, rfl, rfl, rfl, rfl, rfl, rfl, trivial⟩
           ·rintro ⟨k, hk, hg⟩
            dsimp only
            refine zG ?_
            refine zB hN ?_
            refine zN ?_
            refine awp_seq ?_
            refine c_cond rfl (fun h156 => ?_) (fun h156 => ?_)
            ·
             have hlt : k < (l.ps).length := by simpa using h156
             obtain ⟨x, hx⟩ := get_lt hlt
             refine awp_skip ?_
             change AWP _ _ _ _ _
             refine awp_seq ?_
             refine awp_block ?_
             refine zG ?_
             refine zP hN (q_elem rfl rfl rfl k rfl _ (lat_get hx) rfl) ?_
             refine zL hN ?_
             refine zO hN ?_
             refine zC ?_
             refine zA ?_
             refine zL hN ?_
             refine zP hN (q_call (ih x (List.mem_of_getElem? hx)) rfl rfl rfl) ?_
             refine zM hN ?_
             refine zP hN (q_extract rfl rfl rfl) ?_
             refine zP hN (q_extract rfl rfl rfl) ?_
             refine zO hN ?_
             refine zC ?_
             refine zS hN ?_
             refine zN ?_
             refine awp_seq ?_
             refine zG ?_
             refine zM hN ?_
             refine zP hN (q_not rfl rfl) ?_
             refine zN ?_
             refine c_cond rfl (fun h164 => ?_) (fun h164 => ?_)
             ·
              have h35 : (topV x).2 = false := n1 h164
              have hE : topV l = (Val.zero, false) := by rw [hpr, if_neg (by rw [all_no hg hx h35]; decide)]
              refine zG ?_
              refine zP hN (q_build rfl rfl rfl) ?_
              refine zC ?_
              refine zS hN ?_
              refine zN ?_
              refine awp_ret ?_
              change (resY _ _).bind AV.fzt = some _
              refine ret_r rfl ?_
              rw [hE]; rfl
             ·
              have h35 : (topV x).2 = true := n0 h164
              refine awp_skip ?_
              change AWP _ _ _ _ _
              refine awp_region ?_
              refine zF hN ?_
              refine zL hN ?_
              refine zL hN ?_
              refine zP hN (q_bslice rfl rfl rfl rfl (by exact rfl) (by decide) (by decide)) ?_
              refine s_append_tok hN rfl rfl rfl (by simp) rfl rfl (all_okE okE_val _) rfl (by simp [chunk_4]; omega) rfl rfl rfl rfl ?_
              refine zF hN ?_
              refine zC ?_
              refine aops_nil ?_
              change AWP _ _ _ _  _
              refine awp_region ?_
              refine zP hN (q_addi rfl rfl rfl (by omega)) ?_
              refine zM hN ?_
              refine aops_nil ?_
              exact ⟨⟨k + 1, hlt, all_go hg hx h35⟩, weak_scrub' rfl ⟨rfl, rfl, rfl, rfl, rfl, rfl, rfl, rfl, (cgI (by dsimp only; omega)), rfl, trivial⟩ ⟨rfl, rfl, rfl, (cgV (val_step (fun p : Lat => (topV p).1) hx)), rfl, rfl, (cgT (by rw [rep_step (fun p : Lat => (topV p).1) hx]; simp [chunk_4])), rfl, rfl, trivial⟩, by dsimp only; omega⟩
            ·
             have hge : (l.ps).length ≤ k := by simpa using h156
             have hall := all_end hg hge
             have hE : topV l = (.mk 0 [] (l.ps.map fun p => (topV p).1) [], true) := by rw [hpr, if_pos hall]
             rw [List.take_of_length_le hge]
             refine awp_exit ?_
             change AWP _ _ _ _  _
             refine zG ?_
             refine zL hN ?_
             refine zC ?_
             refine zS hN ?_
             refine zN ?_
             refine awp_ret ?_
             change (resY _ _).bind AV.fzt = some _
             refine ret_r rfl ?_
             rw [hE]; rfl
          ·
           exfalso
           have hkk := kinds hO
           simp only [Bool.or_eq_false_iff, beq_eq_false_iff_ne] at *
           omega
theorem top_fc (l : Lat) (hO : OkL l) : FC Tryz.prog 63 [.agg (latL l)] (.tup [.agg (valL (topV l).1), bl (topV l).2]) := top_s2 l hO (fun q hq => top_fc q (hO.part q hq))
termination_by l
decreasing_by exact Lat.sizeOf_ps ‹_›
set_option maxRecDepth 100000 in
set_option maxHeartbeats 1000000 in
theorem Top_fc (l : Lat) : FC Tryz.prog 39 [.agg (latL l)] (.tup [.agg (valL (topC l).1), i64 (topC l).2]) := by
 refine fc_of_awpR [.c 2 30 4 true, .t 3] ⟨⟨inferInstance, rfl⟩, trivial⟩ Tryz.func39 rfl rfl 19 Tryz.ntmps39 (Nat.le_of_ble_eq_true rfl) ?_
 intro E hN
 refine zG ?_
 refine zX hN ?_
 refine zO hN ?_
 refine zS hN ?_
 refine zN ?_
 refine awp_seq ?_
 refine zG ?_
 refine zL hN ?_
 refine zP hN (q_call (check_fc l) rfl rfl rfl) ?_
 refine zB hN ?_
 refine zN ?_
 refine c_cond rfl (fun h6 => ?_) (fun h6 => ?_)
 ·
  have h1 : ¬ checkX l = 0 := by simpa using h6
  refine zG ?_
  refine zP hN (q_build rfl rfl rfl) ?_
  refine zC ?_
  refine zS hN ?_
  refine zN ?_
  refine awp_ret ?_
  change (resY _ _).bind AV.fzt = some _
  refine ret_r rfl ?_
  rw [topC, if_neg h1]; rfl
 ·
  have h1 : checkX l = 0 := by simpa using h6
  refine awp_skip ?_
  change AWP _ _ _ _ _
  refine zG ?_
  refine zL hN ?_
  refine zP hN (q_call (top_fc l (check_ok h1)) rfl rfl rfl) ?_
  refine zM hN ?_
  refine zP hN (q_extract rfl rfl rfl) ?_
  refine zP hN (q_extract rfl rfl rfl) ?_
  refine zO hN ?_
  refine zC ?_
  refine zS hN ?_
  refine zN ?_
  refine awp_seq ?_
  refine zG ?_
  refine zM hN ?_
  refine zP hN (q_not rfl rfl) ?_
  refine zN ?_
  refine c_cond rfl (fun h12 => ?_) (fun h12 => ?_)
  ·
   have h4 : (topV l).2 = false := n1 h12
   refine zG ?_
   refine zP hN (q_build rfl rfl rfl) ?_
   refine zC ?_
   refine zS hN ?_
   refine zN ?_
   refine awp_ret ?_
   change (resY _ _).bind AV.fzt = some _
   refine ret_r rfl ?_
   rw [topC, if_pos h1, h4]; rfl
  ·
   have h4 : (topV l).2 = true := n0 h12
   refine awp_skip ?_
   change AWP _ _ _ _ _
   refine zG ?_
   refine zL hN ?_
   refine zC ?_
   refine zS hN ?_
   refine zN ?_
   refine awp_ret ?_
   change (resY _ _).bind AV.fzt = some _
   refine ret_r rfl ?_
   rw [topC, if_pos h1, if_pos h4]
set_option maxRecDepth 100000 in
set_option maxHeartbeats 1000000 in
theorem lawEnds_fc (l : Lat) (a : Val) : FC Tryz.prog 13 [.agg (latL l), .agg (valL a)] (bl true) := by
 refine fc_of_awp [4] Tryz.func13 rfl rfl 52 Tryz.ntmps13 (Nat.le_of_ble_eq_true rfl) ?_
 intro E hN
 refine zG ?_
 refine zX hN ?_
 refine zX hN ?_
 refine zS hN ?_
 refine zN ?_
 refine awp_seq ?_
 refine zG ?_
 refine zP hN (q_call awake_fc rfl rfl rfl) ?_
 refine zP hN (q_not rfl rfl) ?_
 refine zN ?_
 refine c_false rfl rfl ?_
 refine awp_skip ?_
 change AWP _ _ _ _ _
 refine awp_seq ?_
 refine zG ?_
 refine zL hN ?_
 refine zL hN ?_
 refine zP hN (q_bslice2 rfl rfl rfl rfl (by exact rfl) (by decide) (by decide) (vals_1 a)) ?_
 refine zP hN (q_call (lvalid_fc l [a]) rfl rfl rfl) ?_
 refine zP hN (q_not rfl rfl) ?_
 refine zN ?_
 refine c_cond rfl (fun h8 => ?_) (fun h8 => ?_)
 ·
  refine zG ?_
  refine zS hN ?_
  refine zQ ?_
  rfl
 ·
  have hV := n0 h8
  have hv3 := validL_ok hV
  have hc := hv3.1
  have hO := check_ok hc
  have ha := (hv3.2.2 a (by simp)).1
  have hS := validL_small hV
  have hbe := bot_elem l hO
  refine awp_skip ?_
  change AWP _ _ _ _ _
  refine zG ?_
  refine zL hN ?_
  refine zP hN (q_call (bot_fc l hc) rfl rfl rfl) ?_
  refine zM hN ?_
  refine zP hN (q_extract rfl rfl rfl) ?_
  refine zP hN (q_extract rfl rfl rfl) ?_
  refine zO hN ?_
  refine zC ?_
  refine zS hN ?_
  refine zA ?_
  refine zL hN ?_
  refine zP hN (q_call (Top_fc l) rfl rfl rfl) ?_
  refine zM hN ?_
  refine zP hN (q_extract rfl rfl rfl) ?_
  refine zP hN (q_extract rfl rfl rfl) ?_
  refine zO hN ?_
  refine zC ?_
  refine zS hN ?_
  refine zN ?_
  refine awp_seq ?_
  refine awp_seq ?_
  refine awp_draw 17 (by kernel_rfl) (by kernel_rfl) ?_
  refine zm hN ?_
  refine zp hN (q_binb (b := false) rfl rfl rfl rfl) ?_
  refine zm hN ?_
  refine zl hN ?_
  refine zl hN ?_
  refine zl hN ?_
  refine zp hN (q_call (fcb (leqJ_fc l (bottomV l) a) ((leqJ_on hc hbe ha).trans (bot_least l hO a ha))) rfl rfl rfl) ?_
  refine zp hN (q_not rfl rfl) ?_
  refine zp hN (q_pick0 rfl rfl rfl rfl) ?_
  refine zm hN ?_
  refine zl hN ?_
  refine zl hN ?_
  refine zl hN ?_
  refine zp hN (q_call (both_fc l (bottomV l) a hc hbe ha ((sm_bot l hO).up (by decide)) ((hS a (by simp)).up (by decide))) rfl rfl rfl) ?_
  refine zl hN ?_
  refine zp hN (q_call (fcb (rEqual_fc (joinV l (bottomV l) a) a) ((eqV_iff _ _).2 (join_bot hO ha))) rfl rfl rfl) ?_
  refine zp hN (q_not rfl rfl) ?_
  change AOps _ _ _ _ _ _
  refine zP hN (q_pick0 rfl rfl rfl rfl) ?_
  refine zN ?_
  refine c_false rfl rfl ?_
  refine awp_skip ?_
  change AWP _ _ _ _ _
  refine zG ?_
  refine zM hN ?_
  refine zB hN ?_
  refine zM hN ?_
  refine s_case 46 rfl (fun h29 => ?_) (fun h29 => ?_)
  ·
   refine s_skip hN rfl (w10 h29) rfl rfl ?_
   refine s_skip hN rfl (w10 h29) rfl rfl ?_
   refine s_skip hN rfl (w10 h29) rfl rfl ?_
   refine s_skip hN rfl (w10 h29) rfl rfl ?_
   refine zP hN (q_pick1 rfl rfl h29 rfl) ?_
   refine zS hN ?_
   refine zQ ?_
   rfl
  ·
   have h9 : (topC l).2 = 0 := by simpa using h29
   have hle : leqJ l a (topC l).1 = true := by
    have ht : (topV l).2 = true := by
     rw [topC, if_pos hc] at h9
     cases h : (topV l).2
     ·rw [h] at h9; cases h9
     ·rfl
    have T := top_ok l hO ht
    rw [topC, if_pos hc, if_pos ht]
    rw [leqJ_on hc ha T.el]; exact T.ge a ha
   refine s_py hN (q_load rfl rfl rfl rfl rfl) rfl (w00 h29) rfl rfl ?_
   refine s_py hN (q_load rfl rfl rfl rfl rfl) rfl (w00 h29) rfl rfl ?_
   refine s_py hN (q_load rfl rfl rfl rfl rfl) rfl (w00 h29) rfl rfl ?_
   refine s_py hN (q_call (fcb (leqJ_fc l a (topC l).1) hle) rfl rfl rfl) rfl (w00 h29) rfl rfl ?_
   refine zP hN (q_pick0 rfl rfl h29 rfl) ?_
   refine zS hN ?_
   refine zQ ?_
   rfl
end Go.Proofs.YtciojbjoijedjaaGreat
