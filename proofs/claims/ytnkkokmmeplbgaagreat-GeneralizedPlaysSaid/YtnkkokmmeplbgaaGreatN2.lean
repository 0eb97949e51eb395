/-
  Contracts: a node proposes, decides, begins and ends.
-/
import Derived.Test.YtnkkokmmeplbgaaGreatN1
import Derived.Test.YtnkkokmmeplbgaaGreatT5
import Derived.Test.YtnkkokmmeplbgaaGreatA8
import Derived.Test.YtnkkokmmeplbgaaGreatA12
namespace Go.Proofs.YtnkkokmmeplbgaaGreat
set_option maxRecDepth 100000
set_option maxHeartbeats 1000000
open Go.RowKit
theorem QvK {n : Int} (h1 : 1 ≤ n) (h2 : n ≤ 12) : IntKind.i64.wrap ((n - 1).tdiv 2) = (n - 1) / 2 := by
 rcases (show n = 1 ∨ n = 2 ∨ n = 3 ∨ n = 4 ∨ n = 5 ∨ n = 6 ∨ n = 7 ∨ n = 8 ∨ n = 9 ∨ n = 10 ∨ n = 11 ∨ n = 12 by omega) with rfl | rfl | rfl | rfl | rfl | rfl | rfl | rfl | rfl | rfl | rfl | rfl <;> rfl
def WD (ack : Nat → Bool) (k : Nat) : Nat := (List.range k).countP ack
theorem Qbt {ack : Nat → Bool} {k : Nat} (h : ack k = true) : WD ack (k + 1) = WD ack k + 1 := by
 unfold WD
 rw [List.range_succ, List.countP_append]
 simp [h]
theorem Qco {ack : Nat → Bool} {k : Nat} (h : ack k = false) : WD ack (k + 1) = WD ack k := by
 unfold WD
 rw [List.range_succ, List.countP_append]
 simp [h]
theorem QaN (ack : Nat → Bool) (k : Nat) : WD ack k ≤ k := by
 unfold WD
 have := List.countP_le_length (p := ack) (l := List.range k)
 rwa [List.length_range] at this
abbrev QtN (p : Pp) : List AV := [bl (p.ack 0), bl (p.ack 1), bl (p.ack 2), bl (p.ack 3), bl (p.ack 4), bl (p.ack 5), bl (p.ack 6), bl (p.ack 7), bl (p.ack 8), bl (p.ack 9), bl (p.ack 10), bl (p.ack 11)]
theorem Qjt {p : Pp} {j : Nat} (h : j < 12) : (QtN p)[j]? = some (bl (p.ack j)) := by
 rcases Qnh h with rfl | rfl | rfl | rfl | rfl | rfl | rfl | rfl | rfl | rfl | rfl | rfl <;> rfl
theorem QuJ {s : Nd} {p : Pp} (h : Kq s p = false) : (WD p.ack 12 : Int) < QdI s.n := by
 have h : decide (QdI s.n ≤ (WD p.ack 12 : Int)) = false := h
 simpa using h
theorem Qn3 {s : Nd} {p : Pp} (h : Kq s p = true) : ¬ (WD p.ack 12 : Int) < QdI s.n := by
 have h : decide (QdI s.n ≤ (WD p.ack 12 : Int)) = true := h
 simpa using h
theorem QaU {l : Qv} {s : Nd} {p : Pp} (h : QJ l s.lrn p.v = true) : QT l s p = { s with lrn := p.v } := by rw [QT, if_pos h]
theorem QcP {l : Qv} {s : Nd} {p : Pp} (h : QJ l s.lrn p.v = false) : QT l s p = s := by rw [QT, if_neg (by rw [h]; decide)]
theorem Qi8 {Ho : List (Nat × Qs)} {es : List (List AV)} (h : ∀ e ∈ es, fzs e = some e) : es.flatten.all (Qbg Ho) = true := List.all_eq_true.2 fun x hx => Qgo (List.all_eq_true.1 (Xh h) x hx)
section
variable {ρ : List (Nat × Nat)} {r q1 q2 q3 k : Nat} {te T1 T2 T3 : TypeId} {es : List (List AV)} {c1 c1' c2 c2' c3 c3' : List AV}
theorem Qhg (h : ∀ e ∈ es, fzs e = some e) (h1 : c1.map (KL ρ) = c1') (h2 : c2.map (KL ρ) = c2') : [(r, Qs.arr te k es), (q1, .var T1 c1), (q2, .var T2 c2)].map (fun p => (rn ρ p.1, Wm ρ p.2)) = [(rn ρ r, .arr te k es), (rn ρ q1, .var T1 c1'), (rn ρ q2, .var T2 c2')] := by
 subst h1 h2
 simp only [List.map_cons, List.map_nil, Wm, QcO h]
theorem Qrc (h : ∀ e ∈ es, fzs e = some e) (h1 : c1.map (KL ρ) = c1') (h2 : c2.map (KL ρ) = c2') (h3 : c3.map (KL ρ) = c3') : [(r, Qs.arr te k es), (q1, .var T1 c1), (q2, .var T2 c2), (q3, .var T3 c3)].map (fun p => (rn ρ p.1, Wm ρ p.2)) = [(rn ρ r, .arr te k es), (rn ρ q1, .var T1 c1'), (rn ρ q2, .var T2 c2'), (rn ρ q3, .var T3 c3')] := by
 subst h1 h2 h3
 simp only [List.map_cons, List.map_nil, Wm, QcO h]
end
theorem Qj5 (n : Int) (h1 : 1 ≤ n) (h2 : n ≤ 12) : FC Tryz.prog 165 [i64 1, i64 n] (bl true) := by
 refine Qh [4] Tryz.func165 rfl rfl 19 Tryz.ntmps165 (Nat.le_of_ble_eq_true rfl) ?_
 intro E hN;refine YI ?_;refine zP (Ql (b := true) rfl rfl rfl (by simpa using h1)) ?_;refine QD ?_;refine zP (Ql (b := true) rfl rfl rfl (by simpa using h2)) ?_;refine QH ?_;refine zQ ?_
 rfl
theorem Qps (n : Int) (h1 : 1 ≤ n) (h2 : n ≤ 12) : FC Tryz.prog 166 [i64 1, i64 n] (i64 ((n - 1) / 2)) := by
 refine Qh [4] Tryz.func166 rfl rfl 17 Tryz.ntmps166 (Nat.le_of_ble_eq_true rfl) ?_
 intro E hN;refine X3 ?_;refine zP (Qd (Qj5 n h1 h2) rfl rfl rfl) ?_;refine QdK ?_;refine zP (Kb rfl rfl rfl (by omega)) ?_;refine zP (Quv rfl rfl rfl (by decide)) ?_;refine zS ?_;refine zQ ?_;exact congrArg (fun z : Int => i64 z) (QvK h1 h2)
theorem Qgz (n : Int) (h1 : 1 ≤ n) (h2 : n ≤ 12) : FC Tryz.prog 131 [i64 1, i64 n] (i64 (QdI n)) := by
 refine Qh [4] Tryz.func131 rfl rfl 14 Tryz.ntmps131 (Nat.le_of_ble_eq_true rfl) ?_
 intro E hN;refine X3 ?_;refine zP (Qd (Qj5 n h1 h2) rfl rfl rfl) ?_;refine X3 ?_;refine zP (Qd (Qps n h1 h2) rfl rfl rfl) ?_;refine zP (Kb rfl rfl rfl (by omega)) ?_;refine zS ?_;refine zQ ?_
 rfl
theorem Qex (l : Qv) (s : Nd) (p : Pp) (R : List (Nat × Qs)) (hH : XD ((Qe, .var 131 (Xy l s (.ptr (Qe + 1) 0))) :: (Qe + 1, .var 137 (Jk p)) :: R)) (hc : QB l = 0) (h1 : 1 ≤ s.n) (h2 : s.n ≤ 12) (hm : El l 100000 p.v) (to : Nat → Bool) (g : FuncId) (caps : List AV) [Q8 Tryz.prog g] (hF : ∀ i : Nat, i < 12 → GC Tryz.prog g (i64 i :: caps) ((Qe, .var 131 (Xy l s (.ptr (Qe + 1) 0))) :: (Qe + 1, .var 137 (Jk p)) :: R) (bl (to i)) ((Qe, .var 131 (Xy l s (.ptr (Qe + 1) 0))) :: (Qe + 1, .var 137 (Jk p)) :: R)) (hcap : caps.all QdJ = true) (hcap2 : okId 2 (.fn g caps) = true) (hcb : QdJ (.fn g caps) = true) : GX Tryz.prog 95 [.ptr Qe 0, .fn g caps] ((Qe, .var 131 (Xy l s (.ptr (Qe + 1) 0))) :: (Qe + 1, .var 137 (Jk p)) :: R) (.own 1 (JD s p to).length) ((1, (.arr 54 8 ((JD s p to).map fun b => Jw b))) :: ((Qe, .var 131 (Xy l s (.ptr (Qe + 1) 0))) :: (Qe + 1, .var 137 (Jk p)) :: R)) 2 := by
 refine QK [4] Tryz.func95 rfl rfl 20 Tryz.ntmps95 (Nat.le_of_ble_eq_true rfl) ?_
 intro E hN;refine Qy ?_;refine zD 14 ?_;refine Jx ?_;refine zp (Kf rfl rfl rfl) ?_;refine zm ?_;refine WE hN hH (H := ((Qe, .var 131 (Xy l s (.ptr (Qe + 1) 0))) :: (Qe + 1, .var 137 (Jk p)) :: R)) (Xc _) (Qn6 l s _ _ hH hc h1 h2 ⟨1, 0, 0, s.num, p.v⟩ (by show ¬ (1 : Int) = 2; decide) hm to g caps hF hcap hcap2) (.fn _ _ _ _ rfl rfl) (by rw [List.all_cons, List.all_cons, List.all_cons, hcb]; rfl) hH.pp rfl rfl rfl rfl rfl rfl ?_;refine zT ?_;refine Qg ?_;change (Q7 _ _).ntt = _ ∧ _
 refine Qeb hH hH.pp rfl ?_ rfl rfl rfl rfl ?_ rfl (Yo _)
 ·rfl
 rfl
theorem Qi7 (l : Qv) (s : Nd) (x0 : AV) (R : List (Nat × Qs)) (hH : XD ((Qe, .var 131 (Xy l s x0)) :: R)) (hc : QB l = 0) (h1 : 1 ≤ s.n) (h2 : s.n ≤ 12) (hm : El l 100000 s.lrn) : GX Tryz.prog 94 [.ptr Qe 0] ((Qe, .var 131 (Xy l s x0)) :: R) (.own 1 (W5 s).length) ((1, (.arr 54 8 ((W5 s).map fun b => Jw b))) :: ((Qe, .var 131 (Xy l s x0)) :: R)) 2 := by
 refine QK [2] Tryz.func94 rfl rfl 10 Tryz.ntmps94 (Nat.le_of_ble_eq_true rfl) ?_
 intro E hN;refine Jx ?_;refine WE hN hH (H := ((Qe, .var 131 (Xy l s x0)) :: R)) (Xc _) (Qn6 l s _ _ hH hc h1 h2 ⟨4, 0, 0, 0, s.lrn⟩ (by show ¬ (4 : Int) = 2; decide) hm Xv 98 [] (fun i _ => QeM hH (i : Int)) rfl rfl) (.fn _ _ _ _ rfl rfl) rfl hH.pp rfl rfl rfl rfl rfl rfl ?_;refine zT ?_;refine Qg ?_;change (Q7 _ _).ntt = _ ∧ _;refine Qeb hH hH.pp rfl ?_ rfl rfl rfl rfl ?_ rfl (Yo _)
 ·rfl
 rfl
theorem QjL (l : Qv) (s : Nd) (p : Pp) (hc : QB l = 0) (hs0 : 0 ≤ s.self) (hs1 : s.self < 12) (hn0 : 0 ≤ s.num) (hn1 : s.num ≤ 1000000) : GX Tryz.prog 97 [.ptr Qe 0] [(Qe, .var 131 (Xy l s (.ptr (Qe + 1) 0))), ((Qe + 1), .var 137 (Jk p))] (.tup []) [(Qe, .var 131 (Xy l (Qc2 s p) (.ptr (Qe + 1) 0))), ((Qe + 1), .var 137 (Jk (Qbw l s p)))] 0 := by
 have hH : XD [(Qe, .var 131 (Xy l s (.ptr (Qe + 1) 0))), ((Qe + 1), .var 137 (Jk p))] := XD.of rfl
 have h12 : s.self.toNat < 12 := by omega
 refine QK [] Tryz.func97 rfl rfl 38 Tryz.ntmps97 (Nat.le_of_ble_eq_true rfl) ?_
 intro E hN;refine Jx ?_;refine zP (QE hH (Qaq l s (.ptr (Qe + 1) 0) [((Qe + 1), .var 137 (Jk p))] hH hc) rfl rfl rfl hH.pp) ?_;refine QaZ ?_;refine Qy ?_;refine zP (Qr7 rfl) ?_;refine QC ?_;refine zD 8 ?_;refine Xg ?_;refine zp (Qlf rfl rfl rfl s.self.toNat (by omega) h12 rfl rfl) ?_;refine Qcp rfl rfl rfl rfl rfl rfl (QnG (p := { p with g := Qn l, ack := fun _ => false }) h12) rfl rfl rfl (QjD (p := { p with g := Qn l, ack := fun _ => false }) h12) ?_;refine Qb ?_;change (Q7 _ _).ntt = _ ∧ _
 refine Ja rfl ?_ rfl rfl rfl ⟨rfl, rfl, rfl, rfl, rfl, rfl, trivial⟩
 rfl
theorem Qnn (l : Qv) (s : Nd) (p : Pp) (h1 : 1 ≤ s.n) (h2 : s.n ≤ 12) (hq : Kq s p = false) : GC Tryz.prog 86 [.ptr Qe 0] [(Qe, .var 131 (Xy l s (.ptr (Qe + 1) 0))), ((Qe + 1), .var 137 (Jk p))] (.sl [] none) [(Qe, .var 131 (Xy l s (.ptr (Qe + 1) 0))), ((Qe + 1), .var 137 (Jk p))] := by
 have hH : XD [(Qe, .var 131 (Xy l s (.ptr (Qe + 1) 0))), ((Qe + 1), .var 137 (Jk p))] := XD.of rfl
 refine XA [2] Tryz.func86 rfl rfl 60 Tryz.ntmps86 (Nat.le_of_ble_eq_true rfl) ?_
 intro E hN;refine QjC ?_;refine Qm (fun x : {k : Nat // k ≤ 12} => ⟨[(0, .ptr Qe 0), (3, i64 (WD p.ack x.1 : Nat)), (13, .agg (QtN p)), (14, i64 (x.1 : Nat))], [(Qe, .var 131 (Xy l s (.ptr (Qe + 1) 0))), ((Qe + 1), .var 137 (Jk p))], 0⟩) (fun x => 12 - x.1) (⟨0, Nat.zero_le _⟩) ?_ ?_
 ·exact Qa rfl (YO trivial) ⟨rfl, rfl, rfl, rfl, rfl, rfl, trivial⟩
 rintro ⟨k, hk⟩;dsimp only;refine Qy ?_
 refine zq ?_ ?_ <;> intro h10
 rotate_left
 ·have hge : ¬ (k : Int) < 12 := by simpa using h10
  obtain rfl : k = 12 := by omega
  refine X3 ?_;refine zP (Qd (Qgz s.n h1 h2) rfl rfl rfl) ?_;refine zP (Ql (b := true) rfl rfl rfl (by simpa using QuJ hq)) ?_;refine Xk ?_;refine Qx (Yd 2 rfl) ?_;refine Qg ?_;change (Q7 _ _).fzt = some _ ∧ _;refine Yt hH hH.pp rfl ?_
  rfl
 have hlt : k < 12 := Int.ofNat_lt.1 (by simpa using h10)
 refine Qy ?_;refine zP (Qm6 rfl rfl rfl k rfl hlt rfl (Qjt hlt)) ?_;refine Xk ?_
 refine zq ?_ ?_ <;> intro h11
 ·have hy : p.ack k = true := h11
  refine QH ?_;refine zP (Kr rfl rfl rfl (by first | omega | (have := QaN p.ack k; omega))) ?_;refine QD ?_;refine zP (Kr rfl rfl rfl (by first | omega | (have := QaN p.ack k; omega))) ?_;refine zM ?_;refine Qb ?_;exact ⟨⟨k + 1, hlt⟩, Qa rfl (XE ⟨(Y6 (by dsimp only; first | (rw [Qbt hy]; omega) | (rw [Qco hy]))), rfl, rfl, rfl, X5, rfl, trivial⟩) ⟨rfl, rfl, rfl, rfl, rfl, rfl, trivial⟩, by dsimp only; omega⟩
 have hy : p.ack k = false := h11
 refine QH ?_;refine zP (Kr rfl rfl rfl (by first | omega | (have := QaN p.ack k; omega))) ?_;refine zM ?_;refine Qb ?_;exact ⟨⟨k + 1, hlt⟩, Qa rfl (XE ⟨(Y6 (by dsimp only; first | (rw [Qbt hy]; omega) | (rw [Qco hy]))), rfl, rfl, rfl, X5, rfl, trivial⟩) ⟨rfl, rfl, rfl, rfl, rfl, rfl, trivial⟩, by dsimp only; omega⟩
theorem Qn2 (l : Qv) (s : Nd) (p : Pp) (hc : QB l = 0) (hw : WH s.wt (Qn l) = true) : GX Tryz.prog 87 [.ptr Qe 0] [(Qe, .var 131 (Xy l s (.ptr (Qe + 1) 0))), ((Qe + 1), .var 137 (Jk p))] (.sl [] none) [(Qe, .var 131 (Xy l s Jv)), ((Qe + 1), .var 137 (Jk p))] 0 := by
 refine QK [2] Tryz.func87 rfl rfl 17 Tryz.ntmps87 (Nat.le_of_ble_eq_true rfl) ?_
 intro E hN;refine WV ?_;refine zD 8 ?_;refine Xo ?_;refine zP (Qd (fcb (QdB l s.wt hc) hw) rfl rfl rfl) ?_;refine Xk ?_;refine Qx (Yd 2 rfl) ?_;refine Qg ?_;change (Q7 _ _).ntt = _ ∧ _;refine Ja rfl ?_ rfl rfl rfl ⟨rfl, rfl, rfl, rfl, rfl, rfl, trivial⟩
 rfl
theorem QnP (l : Qv) (s : Nd) (p : Pp) (hc : QB l = 0) (h1 : 1 ≤ s.n) (h2 : s.n ≤ 12) (hl : El l 100000 s.lrn) (hv : El l 100000 p.v) (hq : Kq s p = true) (hw : WH s.wt (Qn l) = true) : GX Tryz.prog 86 [.ptr Qe 0] [(Qe, .var 131 (Xy l s (.ptr (Qe + 1) 0))), ((Qe + 1), .var 137 (Jk p))] (Y4 (W5 (QT l s p))) [(Qe, .var 131 (Xy l (QT l s p) Jv)), ((Qe + 1), .var 137 (Jk p))] 2 := by
 have hH : XD [(Qe, .var 131 (Xy l s (.ptr (Qe + 1) 0))), ((Qe + 1), .var 137 (Jk p))] := XD.of rfl
 have hl' : El l 100000 (QT l s p).lrn := by unfold QT; dsimp only; split <;> assumption
 have hw' : WH (QT l s p).wt (Qn l) = true := hw
 have hn1' : 1 ≤ (QT l s p).n := h1
 have hn2' : (QT l s p).n ≤ 12 := h2
 refine QK [2] Tryz.func86 rfl rfl 60 Tryz.ntmps86 (Nat.le_of_ble_eq_true rfl) ?_
 intro E hN;refine QjC ?_;refine Qm (fun x : {k : Nat // k ≤ 12} => ⟨[(0, .ptr Qe 0), (3, i64 (WD p.ack x.1 : Nat)), (13, .agg (QtN p)), (14, i64 (x.1 : Nat))], [(Qe, .var 131 (Xy l s (.ptr (Qe + 1) 0))), ((Qe + 1), .var 137 (Jk p))], 0⟩) (fun x => 12 - x.1) (⟨0, Nat.zero_le _⟩) ?_ ?_
 ·exact Qa rfl (YO trivial) ⟨rfl, rfl, rfl, rfl, rfl, rfl, trivial⟩
 rintro ⟨k, hk⟩;dsimp only;refine Qy ?_
 refine zq ?_ ?_ <;> intro h10
 ·have hlt : k < 12 := Int.ofNat_lt.1 (by simpa using h10)
  refine Qy ?_;refine zP (Qm6 rfl rfl rfl k rfl hlt rfl (Qjt hlt)) ?_;refine Xk ?_
  refine zq ?_ ?_ <;> intro h11
  ·have hy : p.ack k = true := h11
   refine QH ?_;refine zP (Kr rfl rfl rfl (by first | omega | (have := QaN p.ack k; omega))) ?_;refine QD ?_;refine zP (Kr rfl rfl rfl (by first | omega | (have := QaN p.ack k; omega))) ?_;refine zM ?_;refine Qb ?_;exact ⟨⟨k + 1, hlt⟩, Qa rfl (XE ⟨(Y6 (by dsimp only; first | (rw [Qbt hy]; omega) | (rw [Qco hy]))), rfl, rfl, rfl, X5, rfl, trivial⟩) ⟨rfl, rfl, rfl, rfl, rfl, rfl, trivial⟩, by dsimp only; omega⟩
  have hy : p.ack k = false := h11
  refine QH ?_;refine zP (Kr rfl rfl rfl (by first | omega | (have := QaN p.ack k; omega))) ?_;refine zM ?_;refine Qb ?_;exact ⟨⟨k + 1, hlt⟩, Qa rfl (XE ⟨(Y6 (by dsimp only; first | (rw [Qbt hy]; omega) | (rw [Qco hy]))), rfl, rfl, rfl, X5, rfl, trivial⟩) ⟨rfl, rfl, rfl, rfl, rfl, rfl, trivial⟩, by dsimp only; omega⟩
 have hge : ¬ (k : Int) < 12 := by simpa using h10
 obtain rfl : k = 12 := by omega
 refine X3 ?_;refine zP (Qd (Qgz s.n h1 h2) rfl rfl rfl) ?_;refine zP (Ql (b := false) rfl rfl rfl (by simpa using Qn3 hq)) ?_;refine QD ?_;refine JT (⟨[(0, .ptr Qe 0)], [(Qe, .var 131 (Xy l (QT l s p) (.ptr (Qe + 1) 0))), ((Qe + 1), .var 137 (Jk p))], 0⟩) ?_ ?_
 ·refine JB ?_;refine zD 15 ?_;refine QdK ?_;refine zP (Qd (KS l hc hl.1 hv.1) rfl rfl rfl) ?_;refine zN ?_
  refine zq ?_ ?_ <;> intro h26
  rotate_left
  ·have hle : QJ l s.lrn p.v = false := h26
   refine QO ?_;exact Qa rfl (XE trivial) ⟨(by first | (rw [QaU hle]; rfl) | (rw [QcP hle]; rfl)), rfl, rfl, rfl, rfl, rfl, trivial⟩
  have hle : QJ l s.lrn p.v = true := h26
  refine Jx ?_;refine Qb ?_;exact Qa rfl (XE trivial) ⟨(by first | (rw [QaU hle]; rfl) | (rw [QcP hle]; rfl)), rfl, rfl, rfl, rfl, rfl, trivial⟩
 refine QD ?_;refine WE hN (XD.of (H := [(Qe, .var 131 (Xy l (QT l s p) (.ptr (Qe + 1) 0))), ((Qe + 1), .var 137 (Jk p))]) rfl) (Xc _) (Qi7 l (QT l s p) (.ptr (Qe + 1) 0) [((Qe + 1), .var 137 (Jk p))] (XD.of rfl) hc hn1' hn2' hl') (.fn _ _ _ _ rfl rfl) rfl (fun _ _ h => h) rfl rfl rfl rfl rfl rfl ?_;refine Xk ?_
 refine QN hN [(Qe, Qe), ((Qe + 1), (Qe + 1))] (Qn2 l (QT l s p) p hc hw') (.fn _ _ _ _ rfl rfl) rfl rfl rfl ⟨rfl, rfl, rfl, rfl, rfl, rfl, trivial⟩ rfl ⟨rfl, rfl, trivial⟩ rfl rfl rfl rfl rfl rfl rfl rfl ?_;refine QS hN rfl rfl rfl (by rw [List.length_map]) rfl rfl rfl (by rw [List.length_map]; have := Qer (QT l s p); refine ⟨?_, ?_⟩ <;> simp <;> omega) rfl rfl rfl rfl ?_;refine zT ?_
 refine Qx (Xl 2 1 rfl rfl (by rw [List.append_nil, List.length_map, List.length_nil]; rfl) (by rw [List.append_nil]; exact JN _) (by rw [List.append_nil]; exact Xc _) rfl) ?_;rw [List.append_nil];refine Qg ?_;change (Q7 _ _).ntt = _ ∧ _;refine Ja rfl ?_ rfl rfl rfl ⟨rfl, rfl, rfl, rfl, rfl, rfl, trivial⟩
 rfl
theorem Qnd {j : Nat} (h : j < 12) : QtD (Yp (fun _ => false) j true) = 1 := by
 rcases Qnh h with rfl | rfl | rfl | rfl | rfl | rfl | rfl | rfl | rfl | rfl | rfl | rfl <;> decide
theorem QjU {s : Nd} {p : Pp} {l : Qv} (h2 : 2 ≤ s.n) (hs0 : 0 ≤ s.self) (hs1 : s.self < 12) : Kq (Qc2 s p) (Qbw l s p) = false := by
 show decide (QdI s.n ≤ (QtD (Yp (fun _ => false) s.self.toNat true) : Int)) = false
 rw [Qnd (by omega)]
 unfold QdI
 simp
 omega
theorem Qn4 (l : Qv) (s : Nd) (hc : QB l = 0) (h1 : 2 ≤ s.n) (h2 : s.n ≤ 12) (hs0 : 0 ≤ s.self) (hs1 : s.self < 12) (hn0 : 0 ≤ s.num) (hn1 : s.num ≤ 1000000) (ha : El l 50000 s.acc) (hwt : El l 50000 s.wt) : GX Tryz.prog 80 [.ptr Qe 0] [(Qe, .var 131 (Xy l s Jv))] (Y4 (JD (Xq l s) (Q1 l s) Xv)) [(Qe, .var 131 (Xy l (Xq l s) (.ptr 0 0))), (0, .var 137 (Jk (Q1 l s)))] 3 := by
 have hH : XD [(Qe, .var 131 (Xy l s Jv))] := XD.of rfl
 have hv : El l 100000 (Qk l s.acc s.wt) := ha.join (Xb hc) (by omega) hwt
 have cPl := Wt l s Jv [] hH hc (ha.up (by decide)) (hwt.up (by decide))
 refine QK [2] Tryz.func80 rfl rfl 33 Tryz.ntmps80 (Nat.le_of_ble_eq_true rfl) ?_
 intro E hN;refine Qy ?_;refine Qdz [0, 1, 2, 3, 4, 5, 6, 7, 8, 9, 10, 11, 12] 13 [14, 15, 16] rfl (by kernel_rfl) (by kernel_rfl) ?_;refine Xs ?_;refine zp (J7 rfl rfl rfl rfl (by exact rfl) (by decide) (by decide) (QaI s.acc s.wt)) ?_;refine zp (QE hH cPl rfl rfl rfl hH.pp) ?_;refine zp (Kf rfl rfl rfl) ?_;change FK _ _ _ _ _ _;refine Quc hN rfl rfl rfl (fun _ => rfl) rfl rfl rfl rfl rfl ?_;change Q3 _ _ _ _ _ _;refine Qy ?_
 refine Qx (QbR 0 (cs' := Jk (Qg7 l s)) rfl (by repeat (first | exact trivial | refine ⟨.inl rfl, ?_⟩ | refine ⟨.inr ⟨rfl, rfl⟩, ?_⟩))) ?_;refine QD ?_;refine zP (Q0 [(Qe, Qe), (Qe + 1, 0)] (Qaq l s (.ptr (Qe + 1) 0) [((Qe + 1), .var 137 (Jk (Qg7 l s)))] (XD.of rfl) hc) rfl rfl rfl rfl ⟨rfl, rfl, rfl, rfl, rfl, rfl, rfl, rfl, trivial⟩ rfl) ?_;refine Xg ?_
 refine QN hN [(Qe, Qe), ((Qe + 1), 0)] (QjL l { s with wt := Qn l } (Qg7 l s) hc hs0 hs1 hn0 hn1) (.fn _ _ _ _ rfl rfl) rfl rfl rfl ⟨rfl, rfl, rfl, rfl, rfl, rfl, trivial⟩ rfl ⟨rfl, rfl, trivial⟩ rfl rfl rfl rfl rfl rfl rfl rfl ?_;refine QC ?_
 refine QN hN [(Qe, Qe), ((Qe + 1), 0)] (Qex l (Xq l s) (Q1 l s) [] (XD.of rfl) hc (by show 1 ≤ s.n; omega) h2 hv Xv 98 [] (fun i _ => QeM (XD.of rfl) (i : Int)) rfl rfl rfl) (.fn _ _ _ _ rfl rfl) rfl rfl rfl ⟨rfl, rfl, rfl, rfl, rfl, rfl, trivial⟩ rfl ⟨Qi8 (Xc _), rfl, rfl, trivial⟩ rfl (Qhg (Xc _) rfl rfl) rfl rfl rfl rfl rfl rfl ?_;refine Xk ?_
 refine zP (Q0 [(Qe, Qe), (Qe + 1, 0)] (Qnn l (Xq l s) (Q1 l s) (by show 1 ≤ s.n; omega) h2 (QjU h1 hs0 hs1)) rfl rfl rfl rfl ⟨rfl, rfl, rfl, rfl, rfl, rfl, rfl, rfl, trivial⟩ rfl) ?_;refine QS hN rfl rfl rfl (by rw [List.length_map]) rfl rfl rfl (by rw [List.length_map]; have h3 : (JD (Xq l s) (Q1 l s) Xv).length ≤ s.n.toNat := Qdk ..; refine ⟨?_, ?_⟩ <;> simp <;> omega) rfl rfl rfl rfl ?_;refine zT ?_
 refine Qx (Xl 2 2 rfl rfl (by rw [List.append_nil, List.length_map, List.length_nil]; rfl) (by rw [List.append_nil]; exact JN _) (by rw [List.append_nil]; exact Xc _) rfl) ?_;rw [List.append_nil];refine Qg ?_;change (Q7 _ _).ntt = _ ∧ _;refine Ja rfl ?_ rfl rfl rfl ⟨rfl, rfl, rfl, rfl, rfl, rfl, trivial⟩
 rfl
end Go.Proofs.YtnkkokmmeplbgaaGreat
