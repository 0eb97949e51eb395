/-
  Contracts: a node proposes, decides, begins and ends.
-/
import Derived.Test.YtnkkokmmeplbgaaGreatN1
import Derived.Test.YtnkkokmmeplbgaaGreatT5
import Derived.Test.YtnkkokmmeplbgaaGreatA12
namespace Go.Proofs.YtnkkokmmeplbgaaGreat
set_option maxRecDepth 100000
set_option maxHeartbeats 1000000
open Go.RowKit
theorem quo2 {n : Int} (h1 : 1 ≤ n) (h2 : n ≤ 12) : IntKind.i64.wrap ((n - 1).tdiv 2) = (n - 1) / 2 := by
 rcases (show n = 1 ∨ n = 2 ∨ n = 3 ∨ n = 4 ∨ n = 5 ∨ n = 6 ∨ n = 7 ∨ n = 8 ∨ n = 9 ∨ n = 10 ∨ n = 11 ∨ n = 12 by omega) with rfl | rfl | rfl | rfl | rfl | rfl | rfl | rfl | rfl | rfl | rfl | rfl <;> rfl
def KM (ack : Nat → Bool) (k : Nat) : Nat := (List.range k).countP ack
theorem QcE {ack : Nat → Bool} {k : Nat} (h : ack k = true) : KM ack (k + 1) = KM ack k + 1 := by
 unfold KM
 rw [List.range_succ, List.countP_append]
 simp [h]
theorem Qfr {ack : Nat → Bool} {k : Nat} (h : ack k = false) : KM ack (k + 1) = KM ack k := by
 unfold KM
 rw [List.range_succ, List.countP_append]
 simp [h]
theorem Qb4 (ack : Nat → Bool) (k : Nat) : KM ack k ≤ k := by
 unfold KM
 have := List.countP_le_length (p := ack) (l := List.range k)
 rwa [List.length_range] at this
abbrev Qod (p : Pp) : List AV := [bl (p.ack 0), bl (p.ack 1), bl (p.ack 2), bl (p.ack 3), bl (p.ack 4), bl (p.ack 5), bl (p.ack 6), bl (p.ack 7), bl (p.ack 8), bl (p.ack 9), bl (p.ack 10), bl (p.ack 11)]
theorem Qiq {p : Pp} {j : Nat} (h : j < 12) : (Qod p)[j]? = some (bl (p.ack j)) := by
 rcases Qh3 h with rfl | rfl | rfl | rfl | rfl | rfl | rfl | rfl | rfl | rfl | rfl | rfl <;> rfl
theorem QnH {s : Nd} {p : Pp} (h : QiL s p = false) : (KM p.ack 12 : Int) < Qgf s.n := by
 have h : decide (Qgf s.n ≤ (KM p.ack 12 : Int)) = false := h
 simpa using h
theorem QmU {s : Nd} {p : Pp} (h : QiL s p = true) : ¬ (KM p.ack 12 : Int) < Qgf s.n := by
 have h : decide (Qgf s.n ≤ (KM p.ack 12 : Int)) = true := h
 simpa using h
theorem Qe3 {l : Qs} {s : Nd} {p : Pp} (h : Q0 l s.lrn p.v = true) : WF l s p = { s with lrn := p.v } := by rw [WF, if_pos h]
theorem Qj1 {l : Qs} {s : Nd} {p : Pp} (h : Q0 l s.lrn p.v = false) : WF l s p = s := by rw [WF, if_neg (by rw [h]; decide)]
theorem QjO {Ho : List (Nat × Qi)} {es : List (List AV)} (h : ∀ e ∈ es, fzs e = some e) : es.flatten.all (Qa1 Ho) = true := List.all_eq_true.2 fun x hx => Qfo (List.all_eq_true.1 (Qd1 h) x hx)
section
variable {ρ : List (Nat × Nat)} {r q1 q2 q3 k : Nat} {te T1 T2 T3 : TypeId} {es : List (List AV)} {c1 c1' c2 c2' c3 c3' : List AV}
theorem Qkw (h : ∀ e ∈ es, fzs e = some e) (h1 : c1.map (Ye ρ) = c1') (h2 : c2.map (Ye ρ) = c2') : [(r, Qi.arr te k es), (q1, .var T1 c1), (q2, .var T2 c2)].map (fun p => (rn ρ p.1, Qbr ρ p.2)) = [(rn ρ r, .arr te k es), (rn ρ q1, .var T1 c1'), (rn ρ q2, .var T2 c2')] := by
 subst h1 h2
 simp only [List.map_cons, List.map_nil, Qbr, Qhf h]
theorem QkK (h : ∀ e ∈ es, fzs e = some e) (h1 : c1.map (Ye ρ) = c1') (h2 : c2.map (Ye ρ) = c2') (h3 : c3.map (Ye ρ) = c3') : [(r, Qi.arr te k es), (q1, .var T1 c1), (q2, .var T2 c2), (q3, .var T3 c3)].map (fun p => (rn ρ p.1, Qbr ρ p.2)) = [(rn ρ r, .arr te k es), (rn ρ q1, .var T1 c1'), (rn ρ q2, .var T2 c2'), (rn ρ q3, .var T3 c3')] := by
 subst h1 h2 h3
 simp only [List.map_cons, List.map_nil, Qbr, Qhf h]
end
theorem QfH (n : Int) (h1 : 1 ≤ n) (h2 : n ≤ 12) : FC Tryz.prog 165 [i64 1, i64 n] (bl true) := by
 refine Qe [4] Tryz.func165 rfl rfl 19 Tryz.ntmps165 (Nat.le_of_ble_eq_true rfl) ?_
 intro E hN
 refine KJ ?_; refine zP (Q6 (b := true) rfl rfl rfl (by simpa using h1)) ?_; refine Qx ?_
 refine zP (Q6 (b := true) rfl rfl rfl (by simpa using h2)) ?_; refine QC ?_; refine zQ ?_
 rfl
theorem Qjr (n : Int) (h1 : 1 ≤ n) (h2 : n ≤ 12) : FC Tryz.prog 166 [i64 1, i64 n] (i64 ((n - 1) / 2)) := by
 refine Qe [4] Tryz.func166 rfl rfl 17 Tryz.ntmps166 (Nat.le_of_ble_eq_true rfl) ?_
 intro E hN
 refine Jy ?_; refine zP (Qb (QfH n h1 h2) rfl rfl rfl) ?_; refine QfB ?_; refine zP (QbO rfl rfl rfl (by omega)) ?_
 refine zP (Qo0 rfl rfl rfl (by decide)) ?_; refine zS ?_; refine zQ ?_
 exact congrArg (fun z : Int => i64 z) (quo2 h1 h2)
theorem QfL (n : Int) (h1 : 1 ≤ n) (h2 : n ≤ 12) : FC Tryz.prog 131 [i64 1, i64 n] (i64 (Qgf n)) := by
 refine Qe [4] Tryz.func131 rfl rfl 14 Tryz.ntmps131 (Nat.le_of_ble_eq_true rfl) ?_
 intro E hN
 refine Jy ?_; refine zP (Qb (QfH n h1 h2) rfl rfl rfl) ?_; refine Jy ?_; refine zP (Qb (Qjr n h1 h2) rfl rfl rfl) ?_
 refine zP (QbO rfl rfl rfl (by omega)) ?_; refine zS ?_; refine zQ ?_
 rfl
theorem Qf2 (l : Qs) (s : Nd) (p : Pp) (R : List (Nat × Qi)) (hH : JJ ((Qk, .var 131 (X6 l s (.ptr (Qk + 1) 0))) :: (Qk + 1, .var 137 (Kn p)) :: R)) (hc : QK l = 0) (h1 : 1 ≤ s.n) (h2 : s.n ≤ 12) (hm : El l 100000 p.v) (to : Nat → Bool) (g : FuncId) (caps : List AV) [QZ Tryz.prog g] (hF : ∀ i : Nat, i < 12 → GC Tryz.prog g (i64 i :: caps) ((Qk, .var 131 (X6 l s (.ptr (Qk + 1) 0))) :: (Qk + 1, .var 137 (Kn p)) :: R) (bl (to i)) ((Qk, .var 131 (X6 l s (.ptr (Qk + 1) 0))) :: (Qk + 1, .var 137 (Kn p)) :: R)) (hcap : caps.all QaA = true) (hcap2 : okId 2 (.fn g caps) = true) (hcb : QaA (.fn g caps) = true) : GX Tryz.prog 95 [.ptr Qk 0, .fn g caps] ((Qk, .var 131 (X6 l s (.ptr (Qk + 1) 0))) :: (Qk + 1, .var 137 (Kn p)) :: R) (.own 1 (Qdz s p to).length) ((1, (.arr 54 8 ((Qdz s p to).map fun b => K0 b))) :: ((Qk, .var 131 (X6 l s (.ptr (Qk + 1) 0))) :: (Qk + 1, .var 137 (Kn p)) :: R)) 2 := by
 refine JH [4] Tryz.func95 rfl rfl 20 Tryz.ntmps95 (Nat.le_of_ble_eq_true rfl) ?_
 intro E hN
 refine QA ?_; refine Qg 14 (by kernel_rfl) (by kernel_rfl) ?_; refine QC ?_; refine zp (QE rfl rfl rfl) ?_; refine Qx ?_
 refine zp (QE rfl rfl rfl) ?_; refine QC ?_; refine zp (QE rfl rfl rfl) ?_; refine QC ?_; refine zp (Ko rfl rfl rfl) ?_; refine zm ?_
 change Ql _ _ _ _ _ _
 refine QeT hN hH (H := ((Qk, .var 131 (X6 l s (.ptr (Qk + 1) 0))) :: (Qk + 1, .var 137 (Kn p)) :: R)) (Yd _) (Qiz l s _ _ hH hc h1 h2 ⟨1, 0, 0, s.num, p.v⟩ (by show ¬ (1 : Int) = 2; decide) hm to g caps hF hcap hcap2) (.fn _ _ _ _ rfl rfl) (by rw [List.all_cons, List.all_cons, List.all_cons, hcb]; rfl) (by repeat (first | exact hH.p0 | refine hH.pre rfl ?_)) rfl rfl rfl rfl rfl rfl ?_
 refine zT ?_; refine Qj ?_
 change (XP _ _).ntt = _ ∧ _
 refine QhK hH (by repeat (first | exact hH.p0 | refine hH.pre rfl ?_)) rfl ?_ rfl rfl rfl rfl ?_ rfl (Wk _)
 ·rfl
 rfl
theorem QlZ (l : Qs) (s : Nd) (x0 : AV) (R : List (Nat × Qi)) (hH : JJ ((Qk, .var 131 (X6 l s x0)) :: R)) (hc : QK l = 0) (h1 : 1 ≤ s.n) (h2 : s.n ≤ 12) (hm : El l 100000 s.lrn) : GX Tryz.prog 94 [.ptr Qk 0] ((Qk, .var 131 (X6 l s x0)) :: R) (.own 1 (Qke s).length) ((1, (.arr 54 8 ((Qke s).map fun b => K0 b))) :: ((Qk, .var 131 (X6 l s x0)) :: R)) 2 := by
 refine JH [2] Tryz.func94 rfl rfl 10 Tryz.ntmps94 (Nat.le_of_ble_eq_true rfl) ?_
 intro E hN
 refine Jf ?_; refine zP (QE rfl rfl rfl) ?_; refine Qx ?_
 refine QeT hN hH (H := ((Qk, .var 131 (X6 l s x0)) :: R)) (Yd _) (Qiz l s _ _ hH hc h1 h2 ⟨4, 0, 0, 0, s.lrn⟩ (by show ¬ (4 : Int) = 2; decide) hm QbG 98 [] (fun i _ => QgD hH (i : Int)) rfl rfl) (.fn _ _ _ _ rfl rfl) rfl (by repeat (first | exact hH.p0 | refine hH.pre rfl ?_)) rfl rfl rfl rfl rfl rfl ?_
 refine zT ?_; refine Qj ?_
 change (XP _ _).ntt = _ ∧ _
 refine QhK hH (by repeat (first | exact hH.p0 | refine hH.pre rfl ?_)) rfl ?_ rfl rfl rfl rfl ?_ rfl (Wk _)
 ·rfl
 rfl
theorem QmT (l : Qs) (s : Nd) (p : Pp) (hc : QK l = 0) (hs0 : 0 ≤ s.self) (hs1 : s.self < 12) (hn0 : 0 ≤ s.num) (hn1 : s.num ≤ 1000000) : GX Tryz.prog 97 [.ptr Qk 0] [(Qk, .var 131 (X6 l s (.ptr (Qk + 1) 0))), ((Qk + 1), .var 137 (Kn p))] (.tup []) [(Qk, .var 131 (X6 l (Qn3 s p) (.ptr (Qk + 1) 0))), ((Qk + 1), .var 137 (Kn (Qnt l s p)))] 0 := by
 have hH : JJ [(Qk, .var 131 (X6 l s (.ptr (Qk + 1) 0))), ((Qk + 1), .var 137 (Kn p))] := JJ.of rfl
 have h12 : s.self.toNat < 12 := by omega
 refine JH [] Tryz.func97 rfl rfl 38 Tryz.ntmps97 (Nat.le_of_ble_eq_true rfl) ?_
 intro E hN
 refine Qx ?_; refine zP (QE rfl rfl rfl) ?_; refine Jf ?_
 refine zP (JP hH (KF l s (.ptr (Qk + 1) 0) [((Qk + 1), .var 137 (Kn p))] hH hc) rfl rfl rfl (by repeat (first | exact hH.p0 | refine hH.pre rfl ?_))) ?_
 refine zP (QE rfl rfl rfl) ?_; refine Xj ?_; refine zP (QE rfl rfl rfl) ?_; refine QC ?_; refine zP (QE rfl rfl rfl) ?_; refine Xk ?_
 refine zP (QE rfl rfl rfl) ?_; refine Qx ?_; refine zP (QE rfl rfl rfl) ?_; refine Xk ?_; refine zP (Qlw rfl) ?_
 refine zP (QE rfl rfl rfl) ?_; refine Qx ?_; refine Qg 8 (by kernel_rfl) (by kernel_rfl) ?_; refine QC ?_; refine zp (QE rfl rfl rfl) ?_
 refine QC ?_; refine zp (QE rfl rfl rfl) ?_; refine zf ?_; refine zp (QkM rfl rfl rfl s.self.toNat (by omega) h12 rfl rfl) ?_
 change Ql _ _ _ _ _ _
 refine Qft rfl rfl rfl rfl rfl rfl (Qnk (p := { p with g := Qm l, ack := fun _ => false }) h12) rfl rfl rfl (QkS (p := { p with g := Qm l, ack := fun _ => false }) h12) ?_
 refine Qc ?_
 change (XP _ _).ntt = _ ∧ _
 refine Qci rfl ?_ rfl rfl rfl ⟨rfl, rfl, rfl, rfl, rfl, rfl, trivial⟩
 rfl
theorem Qma (l : Qs) (s : Nd) (p : Pp) (h1 : 1 ≤ s.n) (h2 : s.n ≤ 12) (hq : QiL s p = false) : GC Tryz.prog 86 [.ptr Qk 0] [(Qk, .var 131 (X6 l s (.ptr (Qk + 1) 0))), ((Qk + 1), .var 137 (Kn p))] (.sl [] none) [(Qk, .var 131 (X6 l s (.ptr (Qk + 1) 0))), ((Qk + 1), .var 137 (Kn p))] := by
 have hH : JJ [(Qk, .var 131 (X6 l s (.ptr (Qk + 1) 0))), ((Qk + 1), .var 137 (Kn p))] := JJ.of rfl
 refine JK [2] Tryz.func86 rfl rfl 60 Tryz.ntmps86 (Nat.le_of_ble_eq_true rfl) ?_
 intro E hN
 refine Jn ?_; refine zP (QE rfl rfl rfl) ?_; refine QC ?_; refine zP (QE rfl rfl rfl) ?_; refine QA ?_
 refine Qo (fun x : {k : Nat // k ≤ 12} => ⟨[(0, .ptr Qk 0), (3, i64 (KM p.ack x.1 : Nat)), (13, .agg (Qod p)), (14, i64 (x.1 : Nat))], [(Qk, .var 131 (X6 l s (.ptr (Qk + 1) 0))), ((Qk + 1), .var 137 (Kn p))], 0⟩) (fun x => 12 - x.1) (⟨0, Nat.zero_le _⟩) ?_ ?_
 ·
  exact Qa rfl (Yg trivial) ⟨rfl, rfl, rfl, rfl, rfl, rfl, trivial⟩
 rintro ⟨k, hk⟩
 dsimp only
 refine QA ?_
 refine zq ?_ ?_ <;> intro h10
 rotate_left
 ·
  have hge : ¬ (k : Int) < 12 := by simpa using h10
  obtain rfl : k = 12 := by omega
  refine Xk ?_; refine zP (QE rfl rfl rfl) ?_; refine QC ?_; refine zP (Qb (QfL s.n h1 h2) rfl rfl rfl) ?_
  refine zP (Q6 (b := true) rfl rfl rfl (by simpa using QnH hq)) ?_; refine Xk ?_; refine QF (Qgq 2 rfl) ?_; refine Qj ?_
  change (XP _ _).fzt = some _ ∧ _
  refine Qck hH (by repeat (first | exact hH.p0 | refine hH.pre rfl ?_)) rfl ?_
  rfl
 have hlt : k < 12 := Int.ofNat_lt.1 (by simpa using h10)
 refine QA ?_; refine zP (Qlx rfl rfl rfl k rfl hlt rfl (Qiq hlt)) ?_; refine Xk ?_
 refine zq ?_ ?_ <;> intro h11
 ·
  have hy : p.ack k = true := h11
  refine QC ?_
  refine zP (WZ rfl rfl rfl (by first | omega | (have := Qb4 p.ack k; omega))) ?_
  refine Qx ?_
  refine zP (WZ rfl rfl rfl (by first | omega | (have := Qb4 p.ack k; omega))) ?_
  refine zM ?_; refine Qc ?_
  exact ⟨⟨k + 1, hlt⟩, Qa rfl (Xr ⟨(Xe (by dsimp only; first | (rw [QcE hy]; omega) | (rw [Qfr hy]))), rfl, rfl, rfl, (Xe (by dsimp only; omega)), rfl, trivial⟩) ⟨rfl, rfl, rfl, rfl, rfl, rfl, trivial⟩, by dsimp only; omega⟩
 have hy : p.ack k = false := h11
 refine QC ?_
 refine zP (WZ rfl rfl rfl (by first | omega | (have := Qb4 p.ack k; omega))) ?_
 refine zM ?_; refine Qc ?_
 exact ⟨⟨k + 1, hlt⟩, Qa rfl (Xr ⟨(Xe (by dsimp only; first | (rw [QcE hy]; omega) | (rw [Qfr hy]))), rfl, rfl, rfl, (Xe (by dsimp only; omega)), rfl, trivial⟩) ⟨rfl, rfl, rfl, rfl, rfl, rfl, trivial⟩, by dsimp only; omega⟩
theorem QmS (l : Qs) (s : Nd) (p : Pp) (hc : QK l = 0) (hw : eqV s.wt (Qm l) = true) : GX Tryz.prog 87 [.ptr Qk 0] [(Qk, .var 131 (X6 l s (.ptr (Qk + 1) 0))), ((Qk + 1), .var 137 (Kn p))] (.sl [] none) [(Qk, .var 131 (X6 l s Jz)), ((Qk + 1), .var 137 (Kn p))] 0 := by
 refine JH [2] Tryz.func87 rfl rfl 17 Tryz.ntmps87 (Nat.le_of_ble_eq_true rfl) ?_
 intro E hN
 refine Xj ?_; refine zP (QE rfl rfl rfl) ?_; refine QA ?_; refine Qg 8 (by kernel_rfl) (by kernel_rfl) ?_; refine zm ?_
 refine zp (QE rfl rfl rfl) ?_; refine Qx ?_; refine zp (QE rfl rfl rfl) ?_; refine QC ?_; change Ql _ _ _ _ _ _
 refine zP (Qb (fcb (Qey l s.wt hc) hw) rfl rfl rfl) ?_; refine Xk ?_; refine QF (Qgq 2 rfl) ?_; refine Qj ?_
 change (XP _ _).ntt = _ ∧ _
 refine Qci rfl ?_ rfl rfl rfl ⟨rfl, rfl, rfl, rfl, rfl, rfl, trivial⟩
 rfl
theorem QmB (l : Qs) (s : Nd) (p : Pp) (hc : QK l = 0) (h1 : 1 ≤ s.n) (h2 : s.n ≤ 12) (hl : El l 100000 s.lrn) (hv : El l 100000 p.v) (hq : QiL s p = true) (hw : eqV s.wt (Qm l) = true) : GX Tryz.prog 86 [.ptr Qk 0] [(Qk, .var 131 (X6 l s (.ptr (Qk + 1) 0))), ((Qk + 1), .var 137 (Kn p))] (QdL (Qke (WF l s p))) [(Qk, .var 131 (X6 l (WF l s p) Jz)), ((Qk + 1), .var 137 (Kn p))] 2 := by
 have hH : JJ [(Qk, .var 131 (X6 l s (.ptr (Qk + 1) 0))), ((Qk + 1), .var 137 (Kn p))] := JJ.of rfl
 have hl' : El l 100000 (WF l s p).lrn := by unfold WF; dsimp only; split <;> assumption
 have hw' : eqV (WF l s p).wt (Qm l) = true := hw
 have hn1' : 1 ≤ (WF l s p).n := h1
 have hn2' : (WF l s p).n ≤ 12 := h2
 refine JH [2] Tryz.func86 rfl rfl 60 Tryz.ntmps86 (Nat.le_of_ble_eq_true rfl) ?_
 intro E hN
 refine Jn ?_; refine zP (QE rfl rfl rfl) ?_; refine QC ?_; refine zP (QE rfl rfl rfl) ?_; refine QA ?_
 refine Qo (fun x : {k : Nat // k ≤ 12} => ⟨[(0, .ptr Qk 0), (3, i64 (KM p.ack x.1 : Nat)), (13, .agg (Qod p)), (14, i64 (x.1 : Nat))], [(Qk, .var 131 (X6 l s (.ptr (Qk + 1) 0))), ((Qk + 1), .var 137 (Kn p))], 0⟩) (fun x => 12 - x.1) (⟨0, Nat.zero_le _⟩) ?_ ?_
 ·
  exact Qa rfl (Yg trivial) ⟨rfl, rfl, rfl, rfl, rfl, rfl, trivial⟩
 rintro ⟨k, hk⟩
 dsimp only
 refine QA ?_
 refine zq ?_ ?_ <;> intro h10
 ·
  have hlt : k < 12 := Int.ofNat_lt.1 (by simpa using h10)
  refine QA ?_; refine zP (Qlx rfl rfl rfl k rfl hlt rfl (Qiq hlt)) ?_; refine Xk ?_
  refine zq ?_ ?_ <;> intro h11
  ·
   have hy : p.ack k = true := h11
   refine QC ?_
   refine zP (WZ rfl rfl rfl (by first | omega | (have := Qb4 p.ack k; omega))) ?_
   refine Qx ?_
   refine zP (WZ rfl rfl rfl (by first | omega | (have := Qb4 p.ack k; omega))) ?_
   refine zM ?_; refine Qc ?_
   exact ⟨⟨k + 1, hlt⟩, Qa rfl (Xr ⟨(Xe (by dsimp only; first | (rw [QcE hy]; omega) | (rw [Qfr hy]))), rfl, rfl, rfl, (Xe (by dsimp only; omega)), rfl, trivial⟩) ⟨rfl, rfl, rfl, rfl, rfl, rfl, trivial⟩, by dsimp only; omega⟩
  have hy : p.ack k = false := h11
  refine QC ?_
  refine zP (WZ rfl rfl rfl (by first | omega | (have := Qb4 p.ack k; omega))) ?_
  refine zM ?_; refine Qc ?_
  exact ⟨⟨k + 1, hlt⟩, Qa rfl (Xr ⟨(Xe (by dsimp only; first | (rw [QcE hy]; omega) | (rw [Qfr hy]))), rfl, rfl, rfl, (Xe (by dsimp only; omega)), rfl, trivial⟩) ⟨rfl, rfl, rfl, rfl, rfl, rfl, trivial⟩, by dsimp only; omega⟩
 have hge : ¬ (k : Int) < 12 := by simpa using h10
 obtain rfl : k = 12 := by omega
 refine Xk ?_; refine zP (QE rfl rfl rfl) ?_; refine QC ?_; refine zP (Qb (QfL s.n h1 h2) rfl rfl rfl) ?_
 refine zP (Q6 (b := false) rfl rfl rfl (by simpa using QmU hq)) ?_; refine Qx ?_
 refine Yr (⟨[(0, .ptr Qk 0)], [(Qk, .var 131 (X6 l (WF l s p) (.ptr (Qk + 1) 0))), ((Qk + 1), .var 137 (Kn p))], 0⟩) ?_ ?_
 ·
  refine Yb ?_; refine Qg 15 (by kernel_rfl) (by kernel_rfl) ?_; refine zm ?_; refine zp (QE rfl rfl rfl) ?_; refine Qx ?_
  refine zp (QE rfl rfl rfl) ?_; refine Qx ?_; refine zp (QE rfl rfl rfl) ?_; refine QC ?_; refine zp (QE rfl rfl rfl) ?_; refine QC ?_
  change Ql _ _ _ _ _ _; refine zP (Qb (Qe5 l hc hl.1 hv.1) rfl rfl rfl) ?_; refine zN ?_
  refine zq ?_ ?_ <;> intro h26
  rotate_left
  ·
   have hle : Q0 l s.lrn p.v = false := h26
   refine QN ?_
   exact Qa rfl (Xr trivial) ⟨(by first | (rw [Qe3 hle]; rfl) | (rw [Qj1 hle]; rfl)), rfl, rfl, rfl, rfl, rfl, trivial⟩
  have hle : Q0 l s.lrn p.v = true := h26
  refine Qx ?_; refine zP (QE rfl rfl rfl) ?_; refine QC ?_; refine zP (QE rfl rfl rfl) ?_; refine QC ?_; refine zP (QE rfl rfl rfl) ?_
  refine QC ?_; refine Qc ?_
  exact Qa rfl (Xr trivial) ⟨(by first | (rw [Qe3 hle]; rfl) | (rw [Qj1 hle]; rfl)), rfl, rfl, rfl, rfl, rfl, trivial⟩
 refine Qx ?_
 refine QeT hN (JJ.of (H := [(Qk, .var 131 (X6 l (WF l s p) (.ptr (Qk + 1) 0))), ((Qk + 1), .var 137 (Kn p))]) rfl) (Yd _) (QlZ l (WF l s p) (.ptr (Qk + 1) 0) [((Qk + 1), .var 137 (Kn p))] (JJ.of rfl) hc hn1' hn2' hl') (.fn _ _ _ _ rfl rfl) rfl (fun _ _ h => h) rfl rfl rfl rfl rfl rfl ?_
 refine Xk ?_
 refine Km hN [(Qk, Qk), ((Qk + 1), (Qk + 1))] (QmS l (WF l s p) p hc hw') (.fn _ _ _ _ rfl rfl) rfl rfl rfl ⟨rfl, rfl, rfl, rfl, rfl, rfl, trivial⟩ rfl ⟨rfl, rfl, trivial⟩ rfl rfl rfl rfl rfl rfl rfl rfl ?_
 refine X1 hN rfl rfl rfl (by rw [List.length_map]) rfl rfl rfl (by rw [List.length_map]; have := QjB (WF l s p); refine ⟨?_, ?_⟩ <;> simp <;> omega) rfl rfl rfl rfl ?_
 refine zT ?_
 refine QF (Yt 2 1 rfl rfl (by rw [List.append_nil, List.length_map, List.length_nil]; rfl) (by rw [List.append_nil]; exact QcI _) (by rw [List.append_nil]; exact Yd _) rfl) ?_
 rw [List.append_nil]
 refine Qj ?_
 change (XP _ _).ntt = _ ∧ _
 refine Qci rfl ?_ rfl rfl rfl ⟨rfl, rfl, rfl, rfl, rfl, rfl, trivial⟩
 rfl
theorem QlM {j : Nat} (h : j < 12) : Qn7 (upN (fun _ => false) j true) = 1 := by
 rcases Qh3 h with rfl | rfl | rfl | rfl | rfl | rfl | rfl | rfl | rfl | rfl | rfl | rfl <;> decide
theorem Qm8 {s : Nd} {p : Pp} {l : Qs} (h2 : 2 ≤ s.n) (hs0 : 0 ≤ s.self) (hs1 : s.self < 12) : QiL (Qn3 s p) (Qnt l s p) = false := by
 show decide (Qgf s.n ≤ (Qn7 (upN (fun _ => false) s.self.toNat true) : Int)) = false
 rw [QlM (by omega)]
 unfold Qgf
 simp
 omega
theorem QmV (l : Qs) (s : Nd) (hc : QK l = 0) (h1 : 2 ≤ s.n) (h2 : s.n ≤ 12) (hs0 : 0 ≤ s.self) (hs1 : s.self < 12) (hn0 : 0 ≤ s.num) (hn1 : s.num ≤ 1000000) (ha : El l 50000 s.acc) (hwt : El l 50000 s.wt) : GX Tryz.prog 80 [.ptr Qk 0] [(Qk, .var 131 (X6 l s Jz))] (QdL (Qdz (Qf8 l s) (Qf6 l s) QbG)) [(Qk, .var 131 (X6 l (Qf8 l s) (.ptr 0 0))), (0, .var 137 (Kn (Qf6 l s)))] 3 := by
 have hH : JJ [(Qk, .var 131 (X6 l s Jz))] := JJ.of rfl
 have hv : El l 100000 (QD l s.acc s.wt) := ha.join (Xg hc) (by omega) hwt
 have cPl := QbL l s Jz [] hH hc (ha.up (by decide)) (hwt.up (by decide))
 refine JH [2] Tryz.func80 rfl rfl 33 Tryz.ntmps80 (Nat.le_of_ble_eq_true rfl) ?_
 intro E hN
 refine QA ?_; refine QbZ [0, 1, 2, 3, 4, 5, 6, 7, 8, 9, 10, 11, 12] 13 [14, 15, 16] rfl (by kernel_rfl) (by kernel_rfl) ?_; refine Qx ?_
 refine zp (QE rfl rfl rfl) ?_; refine Qx ?_; refine zp (QE rfl rfl rfl) ?_; refine QC ?_
 refine zp (Kq rfl rfl rfl rfl (by exact rfl) (by decide) (by decide) (Qdj s.acc s.wt)) ?_
 refine zp (JP hH cPl rfl rfl rfl (by repeat (first | exact hH.p0 | refine hH.pre rfl ?_))) ?_; refine zp (Ko rfl rfl rfl) ?_
 change FK _ _ _ _ _ _
 refine QoB hN rfl rfl rfl (fun _ => rfl) rfl rfl rfl rfl rfl ?_; change Ql _ _ _ _ _ _; refine zP (QE rfl rfl rfl) ?_; refine Qz ?_
 refine QF (Qet 0 (cs' := Kn (Qkm l s)) rfl (by repeat (first | exact trivial | refine ⟨.inl rfl, ?_⟩ | refine ⟨.inr ⟨rfl, rfl⟩, ?_⟩))) ?_
 refine Qx ?_
 refine zP (Jb [(Qk, Qk), (Qk + 1, 0)] (KF l s (.ptr (Qk + 1) 0) [((Qk + 1), .var 137 (Kn (Qkm l s)))] (JJ.of rfl) hc) rfl rfl rfl rfl ⟨rfl, rfl, rfl, rfl, rfl, rfl, rfl, rfl, trivial⟩ rfl) ?_
 refine zP (QE rfl rfl rfl) ?_; refine Xk ?_
 refine Km hN [(Qk, Qk), ((Qk + 1), 0)] (QmT l { s with wt := Qm l } (Qkm l s) hc hs0 hs1 hn0 hn1) (.fn _ _ _ _ rfl rfl) rfl rfl rfl ⟨rfl, rfl, rfl, rfl, rfl, rfl, trivial⟩ rfl ⟨rfl, rfl, trivial⟩ rfl rfl rfl rfl rfl rfl rfl rfl ?_
 refine Qz ?_
 refine Km hN [(Qk, Qk), ((Qk + 1), 0)] (Qf2 l (Qf8 l s) (Qf6 l s) [] (JJ.of rfl) hc (by show 1 ≤ s.n; omega) h2 hv QbG 98 [] (fun i _ => QgD (JJ.of rfl) (i : Int)) rfl rfl rfl) (.fn _ _ _ _ rfl rfl) rfl rfl rfl ⟨rfl, rfl, rfl, rfl, rfl, rfl, trivial⟩ rfl ⟨QjO (Yd _), rfl, rfl, trivial⟩ rfl (Qkw (Yd _) rfl rfl) rfl rfl rfl rfl rfl rfl ?_
 refine Xk ?_
 refine zP (Jb [(Qk, Qk), (Qk + 1, 0)] (Qma l (Qf8 l s) (Qf6 l s) (by show 1 ≤ s.n; omega) h2 (Qm8 h1 hs0 hs1)) rfl rfl rfl rfl ⟨rfl, rfl, rfl, rfl, rfl, rfl, rfl, rfl, trivial⟩ rfl) ?_
 refine X1 hN rfl rfl rfl (by rw [List.length_map]) rfl rfl rfl (by rw [List.length_map]; have h3 : (Qdz (Qf8 l s) (Qf6 l s) QbG).length ≤ s.n.toNat := QiF ..; refine ⟨?_, ?_⟩ <;> simp <;> omega) rfl rfl rfl rfl ?_
 refine zT ?_
 refine QF (Yt 2 2 rfl rfl (by rw [List.append_nil, List.length_map, List.length_nil]; rfl) (by rw [List.append_nil]; exact QcI _) (by rw [List.append_nil]; exact Yd _) rfl) ?_
 rw [List.append_nil]
 refine Qj ?_
 change (XP _ _).ntt = _ ∧ _
 refine Qci rfl ?_ rfl rfl rfl ⟨rfl, rfl, rfl, rfl, rfl, rfl, trivial⟩
 rfl
end Go.Proofs.YtnkkokmmeplbgaaGreat
