/-
  Operations taken at the begin: comparisons of known outcome,
-/
import Derived.Test.YtnkkokmmeplbgaaGreatA10
import Derived.Test.YtnkkokmmeplbgaaGreatA12
import Derived.Test.YtnkkokmmeplbgaaGreatA3
namespace Go.Proofs.YtnkkokmmeplbgaaGreat
open Go.RowKit
section
variable {P : Program} {E : Jp} {ops : Array Oper} {o : Oper} {w : Bool} {N d : Nat} {s : St}
end
section
variable {P : Program} {E : Jp} {ops : Array Oper} {o : Oper} {N d : Nat} {w : Bool}
theorem Qcj (hN : E.N = N) {s0 : St} {x : Operand} (ho : o.op = .nilCheck x) {ax y : AV} (hx : Jj s0 x = some ax) {ys : List AV} (hc : s0.at_ ax = some (y :: ys)) (hg : Qr ops s0 o = some w) (hw : w = true) (hd : o.dst = some d) (hdN : Nat.blt d N = true) : WI P E ops o ax s0 := Qho hN hg hw hd hdN fun c a hr => by
 have hv := hr.ev x
 rw [Q5 hx] at hv;obtain ⟨b, off, hat⟩ := hr.at_ hv hc;obtain ⟨hp, _⟩ := hat 0 y rfl;exact ⟨a.eval x, fun w => by simp [execOp, ho, hp], hv⟩
end
section
variable {ρ : List (Nat × Nat)} {q k : Nat} {te T : TypeId} {es : List (List AV)} {cs cs' : List AV} {l l' H : List (Nat × Qs)}
theorem Ys : ([] : List (Nat × Qs)).map (fun p => (rn ρ p.1, Wm ρ p.2)) = [] := rfl
theorem Yr (h1 : cs.map (KL ρ) = cs') (h : l.map (fun p => (rn ρ p.1, Wm ρ p.2)) = l') : ((q, Qs.var T cs) :: l).map (fun p => (rn ρ p.1, Wm ρ p.2)) = (rn ρ q, .var T cs') :: l' := by
 subst h1 h; rfl
theorem JU (h1 : ∀ e ∈ es, fzs e = some e) (h : l.map (fun p => (rn ρ p.1, Wm ρ p.2)) = l') : ((q, Qs.arr te k es) :: l).map (fun p => (rn ρ p.1, Wm ρ p.2)) = (rn ρ q, .arr te k es) :: l' := by
 subst h; simp only [List.map_cons, Wm, QcO h1]
theorem Wc (h1 : ∀ e ∈ es, fzs e = some e) (hl : Qj H q = some (.arr te k es)) : Qj H q = some (Wm ρ (.arr te k es)) := by
 rw [hl]; simp only [Wm, QcO h1]
theorem Ke (h : ∀ e ∈ es, fzs e = some e) : es.flatten.all (Qbg H) = true := List.all_eq_true.2 fun x hx => Qgo (List.all_eq_true.1 (Xh h) x hx)
theorem QtJ {L : Nat} {x : AV} (h : (match x with | .p _ | .sl _ none | .emp | .bot | .el _ => true | _ => false) = true) : okId L x = true := by
 cases x with
 | sl es tk => cases tk with
  | none => rfl
  | some o => cases h
 | _ => first | rfl | cases h
theorem Yj {L : Nat} (h : ∀ e ∈ es, fzs e = some e) : JO L (.arr te k es) = true := List.all_eq_true.2 fun x hx => QtJ (List.all_eq_true.1 (Xh h) x hx)
end
theorem QhF {k : Nat} : ∀ {H : List (Nat × Qs)}, (∀ p ∈ H, k ≠ p.1) → Yv k H = H
 | [], _ => rfl
 | (j, x) :: r, h => by
  have h1 : (k == j) = false := by simpa using h (j, x) (.head _)
  rw [Yv, h1, cond_false, QhF fun p hp => h p (.tail _ hp)]
theorem XD.erase {H : List (Nat × Qs)} {k : Nat} (hH : XD H) (hk : Nat.blt k Qe = true) : Yv k H = H := QhF fun p hp => by
 have h1 := (hH.h _ _ (hH.m p hp)).1
 have h2 : k < Qe := Nat.le_of_ble_eq_true hk
 omega
theorem Qlp {k : Nat} {x : Qs} {H H' : List (Nat × Qs)} (h : Yv k H = H') : Yv k ((k, x) :: H) = H' := by rw [Yv, beq_self_eq_true, cond_true, h]
theorem Qhr {k j : Nat} {x : Qs} {H H' : List (Nat × Qs)} (hn : (k == j) = false) (h : Yv k H = H') : Yv k ((j, x) :: H) = (j, x) :: H' := by rw [Yv, hn, cond_false, h]
end Go.Proofs.YtnkkokmmeplbgaaGreat
