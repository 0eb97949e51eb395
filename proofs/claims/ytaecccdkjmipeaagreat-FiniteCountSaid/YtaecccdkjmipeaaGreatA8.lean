/-
  Methods whose results lie in cells; functions that return the address of a new variable.
  A method that only reads its receiver, as an operation that may stand in a drawn region.
  Drawn regions whose head computes in any order and whose rest, in every order, may write and make new rows; a row in a variable's cell, frozen.
-/
import Derived.Test.YtaecccdkjmipeaaGreatA7
import Derived.Test.YtaecccdkjmipeaaGreatA4
namespace Go.Proofs.YtaecccdkjmipeaaGreat
open Go.RowKit

section
variable {P : Program} {E : Env} {Q : Exit → St → Prop} {ops : Array Oper} {o : Oper} {rest : List Oper} {t : List (Nat × AV)} {H : List (Nat × AObj)} {nx N d : Nat} {w : Bool}
end

end Go.Proofs.YtaecccdkjmipeaaGreat

namespace Go.Proofs.YtaecccdkjmipeaaGreat
open Go.RowKit
section
variable {P : Program} {E : Env} {o : Oper} {st : St}
end
end Go.Proofs.YtaecccdkjmipeaaGreat

namespace Go.Proofs.YtaecccdkjmipeaaGreat
open Go.RowKit

section
variable {P : Program} {E : Env} {ops : Array Oper} {md : Region.Mode}
/-- an operation that yields a value and turns the state -/
def aNw (P : Program) (E : Env) (ops : Array Oper) (i : Nat) (T : St → Prop) (s : St) : Prop :=
 ∃ o s' x, ops[i]? = some o ∧ wantedA ops s o = some true ∧ dstOk E o ∧ (∀ c a, Rel E c a s → ∀ (K : Act → World → Prop) (Q : Exit → Act → World → Prop), (∀ c' v, Rel E c' a s' → VR c' v x → K (a.put o.dst v) c'.w) → o.wp P a c.w K Q) ∧ T (s'.put o.dst x)
theorem nw_append_own {i : Nat} {o : Oper} {t : List (Nat × AV)} {H : List (Nat × AObj)} {nx N d : Nat} {w : Bool} {T : St → Prop} (hN : E.N = N) (hi : ops[i]? = some o) {sx x : Operand} {tt : TypeId} (ho : o.op = .call { callee := .builtin .append, args := #[sx, x], argTypes := #[tt, tt] }) {te : TypeId} {k bytes : Nat} [hT : TApp P tt te k bytes]
  {es : List (List AV)} {q n : Nat} (hs : ev? ⟨t, H, nx⟩ sx = some (.own q n)) (hq : look H q = some (.arr te k es)) (hn : n = es.length) {ax : AV} (hx : ev? ⟨t, H, nx⟩ x = some ax) {es' : List (List AV)} (hax : src? ax = some es')
  (hk' : es'.all (okE k) = true) (hb : (es.length + es'.length) * bytes ≤ 140737488355328 ∧ es.length + es'.length ≤ 9223372036854775807) (hg : wantedA ops ⟨t, H, nx⟩ o = some w) (hw : w = true) (hd : o.dst = some d) (hdN : Nat.blt d N = true)
  (h : T ⟨(d, .own q (n + es'.length)) :: t, (q, .arr te k (es ++ es')) :: H, nx⟩) : aNw P E ops i T ⟨t, H, nx⟩ := by
 subst hw hn
 refine ⟨o, St.set ⟨t, H, nx⟩ q (.arr te k (es ++ es')), .own q (es.length + es'.length), hi, hg, dlt hN hd hdN, fun c a hr K Q hK => ?_, by rw [hd]; exact h⟩
 have hvs := hr.ev sx
 rw [ev_of hs] at hvs
 have hvx := hr.ev x
 rw [ev_of hx] at hvx
 obtain ⟨v', c', h1, h2, h3⟩ := hr.append_own (P := P) (t := tt) o.type hq hvs (src_of hvx hax) hk' hb.1 hb.2
 have hrun : (execOp a.eval o).run P c.w = .ok (.value v') c'.w := by simp [execOp, ho, resolve, invoke, builtin, h1]
 unfold Oper.wp
 rw [hrun, Oper.upon_value]
 exact hK c' v' h2 h3
end

end Go.Proofs.YtaecccdkjmipeaaGreat
