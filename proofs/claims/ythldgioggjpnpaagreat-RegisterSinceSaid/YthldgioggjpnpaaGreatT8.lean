/-
  Contracts: cmp.Or at ints and errors, cmp.Compare at int64, the comparisons of ticks and entries.
  Contracts: names.Valid, names.wordByte, the references' Valid and Name, all saying okName.
  A region that draws its order, whose own operations only read and whose callees leave all that lay unturned: walked once, in the order of the text.
  Entries in memory; the contract of value.register.
  Contracts: the description of registers is valid: lattice.Check.
  Contracts: value.used, element, Valid at registers; Bottom, least.
  Contracts: slices.IndexFunc, ContainsFunc at entries; join.under, covered.
-/
import Derived.Test.YthldgioggjpnpaaGreatT7
import Derived.Deep.RegionHeld3
import Derived.Lib.QuietBelow
import Derived.Handy
namespace Go.Proofs.YthldgioggjpnpaaGreat.Old
open Go.RowKit

def orI : List Int → Int
  | [] => 0
  | x :: r => if x = 0 then orI r else x
abbrev encZ (x : Int) : Value := .int .i64 x

def cmpTk (t u : Tk) : Int := orI [Lib.compareInt t.1 u.1, Lib.compareInt t.2 u.2]

theorem Rd1.drew {α : Type} {w : World} {enc : α → Value} {v : Value} {l : List α} (h : Rd1 w enc v l) : Rd1 w.drew enc v l := h
theorem Rd1.two {W : World} {b : Nat} {x y : Int} (hb : b < W.heap.size) (h0 : W.cell? ⟨b, 0, none⟩ = some (encZ x)) (h1 : W.cell? ⟨b, 1, none⟩ = some (encZ y)) : Rd1 W encZ (.slice (some ⟨b, 0, none⟩) 2 2) [x, y] :=
  ⟨_, _, _, rfl, rfl, Nat.le_refl _, by unfold maxLen; omega, fun _ => ⟨b, 0, rfl, hb, fun j y' hj => by
    rw [Nat.zero_add]
    match j, hj with
    | 0, hj => simp at hj; subst hj; exact h0
    | 1, hj => simp at hj; subst hj; exact h1
    | j + 2, hj => simp at hj⟩⟩

def cmpTs : List Tk → List Tk → Int
  | [], [] => 0
  | [], _ :: _ => -1
  | _ :: _, [] => 1
  | t :: a, u :: b => if cmpTk t u = 0 then cmpTs a b else cmpTk t u

abbrev En := List Tk × Nm
def cmpEn (p q : En) : Int := orI [Lib.compareBytes p.2 q.2, cmpTs p.1 q.1]

end Go.Proofs.YthldgioggjpnpaaGreat.Old

namespace Go.Proofs.YthldgioggjpnpaaGreat.Old
open Go.RowKit

def okByte (c : UInt8) : Bool := (97 ≤ c && c ≤ 122) || (48 ≤ c && c ≤ 57) || c == 45
def okFirst (c : UInt8) : Bool := 97 ≤ c && c ≤ 122
def okName (x : List UInt8) : Bool := decide (1 ≤ x.length) && decide (x.length ≤ 16) && okFirst (x.getD 0 0) && x.all okByte

end Go.Proofs.YthldgioggjpnpaaGreat.Old

namespace Go.Proofs.YthldgioggjpnpaaGreat.Old
open Go.RowKit Go.Sort

end Go.Proofs.YthldgioggjpnpaaGreat.Old

namespace Go.Proofs.YthldgioggjpnpaaGreat.Old
open Go.RowKit

def RdE (w : World) (v : Value) (es : List En) : Prop :=
  ∃ A n c, v = .slice A n c ∧ es.length = n ∧ n ≤ c ∧ c ≤ maxLen ∧
    (0 < n → ∃ b off, A = some ⟨b, off, none⟩ ∧ b < w.heap.size ∧ ∀ j e, es[j]? = some e →
      ∃ q, w.cell? ⟨b, off + j * 2, none⟩ = some q ∧ w.cell? ⟨b, off + j * 2 + 1, none⟩ = some (encS e.2) ∧ RdT w q e.1 ∧ e.2.length ≤ maxLen)
theorem RdE.ext {w w' : World} {v : Value} {es : List En} (h : RdE w v es) (he : Ext w w') : RdE w' v es := by
  obtain ⟨A, n, c, hv, hl, h1, h2, h3⟩ := h
  refine ⟨A, n, c, hv, hl, h1, h2, fun hn => ?_⟩
  obtain ⟨b, off, hA, hb, hc⟩ := h3 hn
  refine ⟨b, off, hA, Nat.lt_of_lt_of_le hb he.size, fun j x hj => ?_⟩
  obtain ⟨q, e1, e2, e3, e4⟩ := hc j x hj
  exact ⟨q, he.cell e1, he.cell e2, e3.ext he, e4⟩
theorem RdE.at_ {w : World} {A : Option Addr} {n c : Nat} {es : List En} (h : RdE w (.slice A n c) es) {j : Nat} (hj : j < n) :
    ∃ b off e q, A = some ⟨b, off, none⟩ ∧ b < w.heap.size ∧ es[j]? = some e ∧ w.cell? ⟨b, off + j * 2, none⟩ = some q ∧ w.cell? ⟨b, off + j * 2 + 1, none⟩ = some (encS e.2) ∧ RdT w q e.1 ∧ e.2.length ≤ maxLen := by
  obtain ⟨A', n', c', he, hl, h1, h2, h3⟩ := h
  injection he with e1 e2 e3
  subst e1 e2 e3
  obtain ⟨b, off, hA, hb, hc⟩ := h3 (by omega)
  have hjl : j < es.length := by omega
  have e := List.getElem?_eq_getElem hjl
  obtain ⟨q, r1, r2, r3, r4⟩ := hc j _ e
  exact ⟨b, off, _, q, hA, hb, e, r1, r2, r3, r4⟩

def clashT (a b : List Tk) : Bool := cmpT a b == 1 || cmpT a b == 2
def lastOk (pre : List En) (e : En) : Bool := match pre.getLast? with | none => true | some d => decide (cmpEn d e < 0)
def oneOk (pre : List En) (e : En) : Bool := !e.1.isEmpty && (validT e.1 && (okName e.2 && (lastOk pre e && pre.all (fun d => !clashT e.1 d.1))))
def regFrom (pre : List En) : List En → Bool
  | [] => true
  | e :: r => oneOk pre e && regFrom (pre ++ [e]) r
def regB (es : List En) : Bool := regFrom [] es

end Go.Proofs.YthldgioggjpnpaaGreat.Old

namespace Go.Proofs.YthldgioggjpnpaaGreat.Old
open Go.RowKit

end Go.Proofs.YthldgioggjpnpaaGreat.Old

namespace Go.Proofs.YthldgioggjpnpaaGreat.Old
open Go.RowKit

/-- a value in memory, read down to its entries -/
def RdV (w : World) (v : Value) (N : Int) (nn np : Nat) (es : List En) : Prop :=
  ∃ An cn Ap cp ve, v = .agg #[.int .i64 N, .slice An nn cn, .slice Ap np cp, ve] ∧ RdE w ve es
theorem RdV.ext {w w' : World} {v : Value} {N : Int} {nn np : Nat} {es : List En} (h : RdV w v N nn np es) (he : Ext w w') : RdV w' v N nn np es := by
  obtain ⟨An, cn, Ap, cp, ve, rfl, h⟩ := h
  exact ⟨An, cn, Ap, cp, ve, rfl, h.ext he⟩
def usedB (N : Int) (nn np : Nat) : Bool := decide (N = 0) && (decide (nn = 0) && decide (np = 0))
end Go.Proofs.YthldgioggjpnpaaGreat.Old

namespace Go.Proofs.YthldgioggjpnpaaGreat.Old
open Go.RowKit

theorem RdT.slice {w : World} {q : Value} {ts : List Tk} (h : RdT w q ts) : ∃ A n c, q = .slice A n c := by
  obtain ⟨A, n, c, hv, -⟩ := h
  exact ⟨A, n, c, hv⟩

end Go.Proofs.YthldgioggjpnpaaGreat.Old
