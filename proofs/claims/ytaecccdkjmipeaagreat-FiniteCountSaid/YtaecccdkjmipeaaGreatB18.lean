/-
  Contracts: the law JoinOrder.
-/
import Derived.Test.YtaecccdkjmipeaaGreatB16
import Derived.Test.YtaecccdkjmipeaaGreatB11
namespace Go.Proofs.YtaecccdkjmipeaaGreat
open Go.RowKit
theorem fcb {f : FuncId} {args : List AV} {b c : Bool} (h : FC Tryz.prog f args (bl b)) (e : b = c) : FC Tryz.prog f args (bl c) := e ▸ h
/-- what a valid call of the law knows -/
structure On (l : Lat) (a b c : Val) : Prop where
 hc : checkX l = 0
 ha : elemB a l = true
 hb : elemB b l = true
 hd : elemB c l = true
theorem On.refl {l : Lat} {a b c : Val} (h : On l a b c) : leqJ l a a = true := by rw [leqJ_on h.hc h.ha h.ha]; exact leq_refl l (check_ok h.hc) a h.ha
theorem On.anti {l : Lat} {a b c : Val} (h : On l a b c) (h1 : leqJ l a b = true) (h2 : leqJ l b a = true) : eqV a b = true := by
 rw [leqJ_on h.hc h.ha h.hb] at h1
 rw [leqJ_on h.hc h.hb h.ha] at h2
 exact (eqV_iff _ _).2 (leq_anti l (check_ok h.hc) a b h.ha h.hb h1 h2)
theorem On.trans {l : Lat} {a b c : Val} (h : On l a b c) (h1 : leqJ l a b = true) (h2 : leqJ l b c = true) : leqJ l a c = true := by
 rw [leqJ_on h.hc h.ha h.hb] at h1
 rw [leqJ_on h.hc h.hb h.hd] at h2
 rw [leqJ_on h.hc h.ha h.hd]
 exact leq_trans l (check_ok h.hc) a b c h.ha h.hb h.hd h1 h2
end Go.Proofs.YtaecccdkjmipeaaGreat
