/-
  Plain laws: a proposer and its specification, step by step.
-/
import Derived.Test.YtnkkokmmeplbgaaGreatS2
import Derived.Test.YtnkkokmmeplbgaaGreatS4
import Derived.Test.YtnkkokmmeplbgaaGreatA11
namespace Go.Proofs.YtnkkokmmeplbgaaGreat
set_option maxRecDepth 100000
set_option maxHeartbeats 1000000
open Go.RowKit
structure Pr where
 id : Int
 n : Int
 q : Int
 v : Qw
 num : Int
 rep : Nat → Bool
 acks : Int
 nk : List Qw
 dec : Bool
def upB (r : Nat → Bool) (j : Nat) (b : Bool) : Nat → Bool := fun i => if i = j then b else r i
def YS (l : QD) (s : Pr) (b : JR) : Int :=
 if b.t ≠ s.id ∨ b.f < 0 ∨ b.f ≥ s.n ∨ b.n < 1 then 1
 else if (b.k = 2 ∧ eqV b.v Qw.zero = true) ∨ (b.k = 3 ∧ XZ l b.v = true) then
  if s.dec = true ∨ b.n ≠ s.num ∨ s.rep b.f.toNat = true then 11 else 0
 else 1
def Qjr (l : QD) (s : Pr) : Pr := { s with v := s.nk.foldl (QR l) s.v, num := s.num + 1, rep := fun _ => false, acks := 0, nk := [] }
def KF (s : Pr) (b : JR) : Pr := if b.k = 2 then { s with rep := upB s.rep b.f.toNat true, acks := s.acks + 1 } else { s with rep := upB s.rep b.f.toNat true, nk := s.nk ++ [b.v] }
def Qcj (l : QD) (s : Pr) : Pr := if s.acks ≥ s.q then { s with dec := true } else if s.acks + s.nk.length ≥ s.q then Qjr l s else s
def Qdm (id n q : Int) (v : Qw) : Pr := ⟨id, n, q, v, 1, fun _ => false, 0, [], false⟩
def Qfd (s : Pr) : List JR := ((List.range s.n.toNat).filter fun i => !s.dec && !s.rep i).map fun i : Nat => (⟨1, s.id, (i : Int), s.num, s.v⟩ : JR)
structure Rr where
 id : Int
 q : Int
 v : Qw
 more : Qw
 num : Int
 reps : List Int
 dec : Bool
def J2 (l : QD) (s : Rr) (b : JR) : Int :=
 if (b.k ≠ 2 ∧ b.k ≠ 3) ∨ b.t ≠ s.id ∨ b.f < 0 ∨ b.f ≥ s.reps.length ∨ b.n < 1 then 1
 else if (b.k = 2 ∧ eqV b.v Qw.zero = false) ∨ (b.k = 3 ∧ XZ l b.v = false) then 1
 else if b.n ≠ s.num ∨ s.dec = true ∨ s.reps.getD b.f.toNat 0 ≠ 0 then 11 else 0
def K0 (s : Rr) : Nat := s.reps.countP (· == 2)
def QbN (s : Rr) : Nat := s.reps.countP (· != 0)
def Yc (l : QD) (s : Rr) (b : JR) : Rr := { s with reps := s.reps.set b.f.toNat b.k, more := if b.k = 3 then QR l s.more b.v else s.more }
def Qa0 (s : Rr) : Rr := if (K0 s : Int) ≥ s.q then { s with dec := true } else if (QbN s : Int) ≥ s.q then { s with v := s.more, num := s.num + 1, reps := List.replicate s.reps.length 0 } else s
def Qaa (id n q : Int) (v : Qw) : Rr := ⟨id, q, v, v, 1, List.replicate n.toNat 0, false⟩
def Qkn (s : Rr) : List JR := ((List.range s.reps.length).filter fun i => !s.dec && s.reps.getD i 0 == 0).map fun i : Nat => (⟨1, s.id, (i : Int), s.num, s.v⟩ : JR)
structure Sim (l : QD) (s : Pr) (r : Rr) : Prop where
 id : s.id = r.id
 q : s.q = r.q
 v : s.v = r.v
 num : s.num = r.num
 dec : s.dec = r.dec
 len : s.n = r.reps.length
 n12 : r.reps.length ≤ 12
 rep : ∀ i, i < r.reps.length → (s.rep i = true ↔ r.reps.getD i 0 ≠ 0)
 kinds : ∀ x ∈ r.reps, x = 0 ∨ x = 2 ∨ x = 3
 acks : s.acks = r.reps.countP (· == 2)
 nks : s.nk.length = r.reps.countP (· == 3)
 more : r.more = s.nk.foldl (QR l) s.v
 el : Qt s.v l = true
 els : ∀ x ∈ s.nk, Qt x l = true
theorem QpD {p : Int → Bool} {l : List Int} {i : Nat} {x : Int} (hi : i < l.length) (h0 : p (l.getD i 0) = false) : (l.set i x).countP p = l.countP p + if p x then 1 else 0 := by
 induction l generalizing i with
 | nil => simp at hi
 | cons a l ih =>
  cases i with
  | zero =>
   have h0 : p a = false := h0
   simp [List.countP_cons, h0]
  | succ i =>
   have := ih (i := i) (by simpa using hi) (by simpa using h0)
   simp [List.countP_cons, this]; omega
theorem QmK {l : List Int} (h : ∀ x ∈ l, x = 0 ∨ x = 2 ∨ x = 3) : l.countP (· != 0) = l.countP (· == 2) + l.countP (· == 3) := by
 induction l with
 | nil => rfl
 | cons a l ih =>
  have := ih fun x hx => h x (by simp [hx])
  rcases h a (by simp) with rfl | rfl | rfl <;> simp [this] <;> omega
theorem Sim.new {l : QD} {id n q : Int} {v : Qw} (h1 : 1 ≤ n) (h2 : n ≤ 12) (he : Qt v l = true) : Sim l (Qdm id n q v) (Qaa id n q v) where
 id := rfl
 q := rfl
 v := rfl
 num := rfl
 dec := rfl
 len := by simp [Qdm, Qaa]; omega
 n12 := by simp [Qaa]; omega
 rep := fun i hi => by
  simp only [Qaa, List.length_replicate] at hi
  simp [Qdm, Qaa, List.getElem?_replicate, hi]
 kinds := fun x hx => .inl (List.mem_replicate.1 hx).2
 acks := by simp [Qdm, Qaa, List.countP_replicate]
 nks := by simp [Qdm, Qaa, List.countP_replicate]
 more := rfl
 el := he
 els := by simp [Qdm]
theorem Sim.chk {l : QD} {s : Pr} {r : Rr} (h : Sim l s r) (b : JR) : YS l s b = J2 l r b := by
 unfold YS J2
 have hl := h.len
 by_cases h1 : b.t ≠ s.id ∨ b.f < 0 ∨ b.f ≥ s.n ∨ b.n < 1
 ·rw [if_pos h1, if_pos (.inr (by rw [← h.id, ← hl]; exact h1))]
 rw [if_neg h1]
 by_cases hk : b.k ≠ 2 ∧ b.k ≠ 3
 ·have hC : (b.k ≠ 2 ∧ b.k ≠ 3) ∨ b.t ≠ r.id ∨ b.f < 0 ∨ b.f ≥ r.reps.length ∨ b.n < 1 := .inl hk
  have hG : ¬ ((b.k = 2 ∧ eqV b.v Qw.zero = true) ∨ (b.k = 3 ∧ XZ l b.v = true)) := by
   rintro (⟨h2, -⟩ | ⟨h2, -⟩)
   ·exact hk.1 h2
   exact hk.2 h2
  rw [if_pos hC, if_neg hG]
 have hC : ¬ ((b.k ≠ 2 ∧ b.k ≠ 3) ∨ b.t ≠ r.id ∨ b.f < 0 ∨ b.f ≥ r.reps.length ∨ b.n < 1) := by
  rw [← h.id, ← hl]
  rintro (h2 | h2)
  ·exact hk h2
  exact h1 h2
 rw [if_neg hC]
 have hf : b.f.toNat < r.reps.length := by omega
 have hr := h.rep _ hf
 by_cases hg : (b.k = 2 ∧ eqV b.v Qw.zero = true) ∨ (b.k = 3 ∧ XZ l b.v = true)
 ·have hB : ¬ ((b.k = 2 ∧ eqV b.v Qw.zero = false) ∨ (b.k = 3 ∧ XZ l b.v = false)) := by
   rcases hg with ⟨g1, g2⟩ | ⟨g1, g2⟩ <;> simp [g1, g2]
  rw [if_pos hg, if_neg hB]
  rw [h.num, h.dec]
  by_cases h2 : r.dec = true ∨ b.n ≠ r.num ∨ s.rep b.f.toNat = true
  ·rw [if_pos h2, if_pos (by rw [← hr]; rcases h2 with h2 | h2 | h2 <;> simp [h2])]
  rw [if_neg h2, if_neg (by rw [← hr]; intro h3; exact h2 (by rcases h3 with h3 | h3 | h3 <;> simp [h3]))]
 rw [if_neg hg]
 refine (if_pos ?_).symm
 rcases (show b.k = 2 ∨ b.k = 3 by omega) with h2 | h2
 ·exact .inl ⟨h2, by cases e : eqV b.v Qw.zero with | false => rfl | true => exact absurd (.inl ⟨h2, e⟩) hg⟩
 exact .inr ⟨h2, by cases e : XZ l b.v with | false => rfl | true => exact absurd (.inr ⟨h2, e⟩) hg⟩
theorem QeN {l : QD} {s : Pr} {b : JR} (h : YS l s b = 0) : 0 ≤ b.f ∧ b.f < s.n ∧ s.rep b.f.toNat = false ∧ (b.k = 2 ∨ b.k = 3 ∧ Qt b.v l = true ∧ Xp l = 0) := by
 unfold YS at h
 split at h
 ·cases h
 rename_i h1
 split at h
 ·rename_i h2
  split at h
  ·cases h
  rename_i h3
  refine ⟨by omega, by omega, by simp at h3; exact h3.2.2, ?_⟩
  rcases h2 with ⟨h2, -⟩ | ⟨h2, h4⟩
  ·exact .inl h2
  unfold XZ at h4
  simp at h4
  exact .inr ⟨h2, h4.2, h4.1⟩
 cases h
theorem Sim.tk {l : QD} {s : Pr} {r : Rr} (h : Sim l s r) {b : JR} (hc : YS l s b = 0) : Sim l (KF s b) (Yc l r b) := by
 obtain ⟨h1, h2, h3, h4⟩ := QeN hc
 have hf : b.f.toNat < r.reps.length := by have := h.len; omega
 have h0 : r.reps.getD b.f.toNat 0 = 0 := by
  have := h.rep _ hf
  rw [h3] at this
  simpa using this
 have hrep : ∀ i, i < (r.reps.set b.f.toNat b.k).length → (upB s.rep b.f.toNat true i = true ↔ (r.reps.set b.f.toNat b.k).getD i 0 ≠ 0) := fun i hi => by
  rw [List.length_set] at hi
  unfold upB
  rw [List.getD_eq_getElem?_getD, List.getElem?_set]
  by_cases e : i = b.f.toNat
  ·rw [if_pos e, if_pos e.symm, if_pos hf]
   rcases h4 with h4 | ⟨h4, -⟩ <;> simp [h4]
  rw [if_neg e, if_neg (Ne.symm e), ← List.getD_eq_getElem?_getD]
  exact h.rep i hi
 have hkin : ∀ x ∈ r.reps.set b.f.toNat b.k, x = 0 ∨ x = 2 ∨ x = 3 := fun x hx => by
  rcases List.mem_or_eq_of_mem_set hx with hx | hx
  ·exact h.kinds x hx
  rw [hx]; omega
 have ha := QpD (p := (· == 2)) (x := b.k) hf (by rw [h0]; rfl)
 have hn := QpD (p := (· == 3)) (x := b.k) hf (by rw [h0]; rfl)
 unfold KF Yc
 rcases h4 with h4 | ⟨h4, h5, -⟩
 ·rw [if_pos h4]
  exact { id := h.id, q := h.q, v := h.v, num := h.num, dec := h.dec, len := (by simpa using h.len), n12 := (by simpa using h.n12), rep := hrep, kinds := hkin, acks := (by show s.acks + 1 = _; rw [ha, h4, h.acks]; simp), nks := (by show s.nk.length = _; rw [hn, h4, h.nks]; simp), more := (by show (if b.k = 3 then _ else _) = _; rw [if_neg (by omega)]; exact h.more), el := h.el, els := h.els }
 rw [if_neg (by omega)]
 have hels : ∀ x ∈ s.nk ++ [b.v], Qt x l = true := fun x hx => by
  rcases List.mem_append.1 hx with hx | hx
  ·exact h.els x hx
  rw [List.mem_singleton.1 hx]; exact h5
 exact { id := h.id, q := h.q, v := h.v, num := h.num, dec := h.dec, len := (by simpa using h.len), n12 := (by simpa using h.n12), rep := hrep, kinds := hkin, acks := (by show s.acks = _; rw [ha, h4, h.acks]; simp), nks := (by show (s.nk ++ [b.v]).length = _; rw [hn, h4, List.length_append, h.nks]; simp), more := (by show (if b.k = 3 then _ else _) = (s.nk ++ [b.v]).foldl _ _; rw [if_pos h4, List.foldl_append, h.more]; rfl), el := h.el, els := hels }
theorem Qmo {l : QD} (hO : YK l) : ∀ (nk : List Qw) (v : Qw), Qt v l = true → (∀ x ∈ nk, Qt x l = true) → Qt (nk.foldl (QR l) v) l = true
 | [], v, h, _ => h
 | x :: nk, v, h, hs => Qmo hO nk _ (K7 l hO v x h (hs x (by simp))).el fun y hy => hs y (by simp [hy])
theorem Sim.fin {l : QD} {s : Pr} {r : Rr} (hO : YK l) (h : Sim l s r) : Sim l (Qcj l s) (Qa0 r) := by
 have hall := QmK h.kinds
 have ha : (K0 r : Int) = s.acks := h.acks.symm
 have hb : (QbN r : Int) = s.acks + s.nk.length := by unfold QbN; rw [hall]; have := h.acks; have := h.nks; omega
 unfold Qcj Qa0
 rw [ha, hb, ← h.q]
 by_cases h1 : s.acks ≥ s.q
 ·rw [if_pos h1, if_pos h1]
  exact { h with dec := rfl, q := rfl }
 rw [if_neg h1, if_neg h1]
 by_cases h2 : s.acks + s.nk.length ≥ s.q
 ·rw [if_pos h2, if_pos h2]
  have hrep : ∀ i, i < (List.replicate r.reps.length (0 : Int)).length → (false = true ↔ (List.replicate r.reps.length (0 : Int)).getD i 0 ≠ 0) := fun i hi => by
   simp only [List.length_replicate] at hi
   simp [hi]
  exact { id := h.id, q := rfl, v := h.more.symm, num := (by show s.num + 1 = _; rw [h.num]), dec := h.dec, len := (by simpa [Qjr] using h.len), n12 := (by simpa using h.n12), rep := hrep, kinds := (fun x hx => .inl (List.mem_replicate.1 hx).2), acks := (by simp [Qjr, List.countP_replicate]), nks := (by simp [Qjr, List.countP_replicate]), more := h.more, el := Qmo hO s.nk s.v h.el h.els, els := (by simp [Qjr]) }
 rw [if_neg h2, if_neg h2]
 exact h
theorem Sim.bals {l : QD} {s : Pr} {r : Rr} (h : Sim l s r) : Qfd s = Qkn r := by
 unfold Qfd Qkn
 have e : s.n.toNat = r.reps.length := by have := h.len; omega
 rw [e, h.id, h.num, h.v, h.dec]
 congr 1
 refine List.filter_congr fun i hi => ?_
 have := h.rep i (List.mem_range.1 hi)
 congr 1
 cases hs : s.rep i with
 | false =>
  have h0 : r.reps.getD i 0 = 0 := by
   rw [hs] at this
   simpa using this
  rw [h0]; rfl
 | true =>
  have h0 : r.reps.getD i 0 ≠ 0 := this.1 hs
  rw [beq_eq_false_iff_ne.2 h0]; rfl
theorem Qp1 {l : QD} (hO : YK l) {a b : Qw} (ha : Qt a l = true) (hb : Qt b l = true) (sa : J6 100000 a) (sb : J6 100000 b) : Qjg l [a, b] := by
 have h0 := Qay l hO
 have s0 := Ql2 l hO
 have h1 : QR l (QU l) a = a := Qjv hO ha
 refine ⟨JoL.of l hO, fun v hv => ?_, fun k hk => ?_⟩
 ·simp only [List.mem_cons, List.not_mem_nil, or_false] at hv
  rcases hv with rfl | rfl
  ·exact sa.up (by omega)
  exact sb.up (by omega)
 rcases (show k = 0 ∨ k = 1 ∨ k = 2 by simp at hk; omega) with rfl | rfl | rfl
 ·exact ⟨h0, s0.up (by omega)⟩
 ·show Qt (QR l (QU l) a) l = true ∧ J6 500000 (QR l (QU l) a)
  rw [h1]
  exact ⟨ha, sa.up (by omega)⟩
 show Qt (QR l (QR l (QU l) a) b) l = true ∧ J6 500000 (QR l (QR l (QU l) a) b)
 rw [h1]
 exact ⟨(K7 l hO a b ha hb).el, (Qd3 (by omega) l hO a b ha hb sa sb).up (by omega)⟩
theorem Qih {α : Type} {g : α → List AV} (hg : ∀ i, fzs (g i) = some (g i)) (l : List α) : ∀ e ∈ l.map g, fzs e = some e := fun e he => by
 obtain ⟨i, -, rfl⟩ := List.mem_map.1 he
 exact hg i
theorem QiU {α : Type} {k : Nat} {g : α → List AV} (hg : ∀ i, okE k (g i) = true) (l : List α) : (l.map g).all (okE k) = true := by
 rw [List.all_map, List.all_eq_true]
 exact fun i _ => hg i
theorem Xe (l : List Qw) : ∀ e ∈ l.map JV, fzs e = some e := Qih (fun v => by rw [Kn]; rfl) l
theorem QO {L : Nat} {te : TypeId} (l : List Qw) : Yj L (.arr te 4 (l.map JV)) = true := QT (f := JV) (fun v => by rw [Kn]; rfl) l
abbrev prC (l : QD) (s : Pr) (x : AV) : List AV := [i64 l.k, i64 l.lo, i64 l.hi, X1 l.nm, Qgi l.ps, rus l.rs, i64 s.id, i64 s.n, i64 s.q, i64 s.v.N, X1 s.v.nm, Qad s.v.ps, W7 s.v.es, i64 s.num, bl (s.rep 0), bl (s.rep 1), bl (s.rep 2), bl (s.rep 3), bl (s.rep 4), bl (s.rep 5), bl (s.rep 6), bl (s.rep 7), bl (s.rep 8), bl (s.rep 9), bl (s.rep 10), bl (s.rep 11), i64 s.acks, x, bl s.dec]
abbrev prH (l : QD) (s : Pr) : List (Nat × Qx) := [(QB, .var 118 (prC l s (.own (QB + 1) s.nk.length))), (QB + 1, .arr 30 4 (s.nk.map JV))]
def Qa4 (s : Pr) (i : Nat) : List JR := ((List.range i).filter fun i => !s.dec && !s.rep i).map fun i : Nat => (⟨1, s.id, (i : Int), s.num, s.v⟩ : JR)
theorem Wx {s : Pr} {i : Nat} (h : (!s.dec && !s.rep i) = true) : Qa4 s (i + 1) = Qa4 s i ++ [⟨1, s.id, (i : Int), s.num, s.v⟩] := by
 unfold Qa4
 rw [List.range_succ, List.filter_append, List.map_append]
 simp only [List.filter_cons, h, List.filter_nil, if_true, List.map_cons, List.map_nil]
theorem Yi {s : Pr} {i : Nat} (h : (!s.dec && !s.rep i) = false) : Qa4 s (i + 1) = Qa4 s i := by
 unfold Qa4
 rw [List.range_succ, List.filter_append, List.map_append]
 simp [h]
theorem QkS (s : Pr) (i : Nat) : (Qa4 s i).length ≤ i := by
 unfold Qa4
 rw [List.length_map]
 have := List.length_filter_le (fun i => !s.dec && !s.rep i) (List.range i)
 rwa [List.length_range] at this
theorem QtI {j : Nat} (h : j < 12) : j = 0 ∨ j = 1 ∨ j = 2 ∨ j = 3 ∨ j = 4 ∨ j = 5 ∨ j = 6 ∨ j = 7 ∨ j = 8 ∨ j = 9 ∨ j = 10 ∨ j = 11 := by omega
theorem QqC {l : QD} {s : Pr} {x : AV} {j : Nat} (h : j < 12) : (prC l s x).drop (14 + j * 1) = bl (s.rep j) :: (prC l s x).drop (15 + j * 1) := by
 rcases QtI h with rfl | rfl | rfl | rfl | rfl | rfl | rfl | rfl | rfl | rfl | rfl | rfl <;> rfl
theorem Qn7 {l : QD} {s : Pr} {x : AV} {j : Nat} (h : j < 12) : Yp (prC l s x) (14 + j * 1) [bl true] = prC l { s with rep := upB s.rep j true } x := by
 rcases QtI h with rfl | rfl | rfl | rfl | rfl | rfl | rfl | rfl | rfl | rfl | rfl | rfl <;> rfl
theorem Qpg {T : TypeId} {l : QD} {s : Pr} {x : AV} {j : Nat} (h : j < 12) {st : St} {q : Nat} (hq : Qi st.H q = some (.var T (prC l s x))) : st.at_ (.ptr q (14 + j * 1)) = some (bl (s.rep j) :: (prC l s x).drop (15 + j * 1)) := by
 simp only [St.at_, hq]
 rw [← QqC h]
theorem Qke (l : QD) (a b : Qw) (hc : Xp l = 0) (ha : Qt a l = true) (hb : Qt b l = true) (sa : J6 100000 a) (sb : J6 100000 b) : FC Tryz.prog 63 [.agg (Q2 l), .agg (Qz a), .agg (Qz b)] (.agg (Qz (QR l a b))) := by
 have cJ : FC Tryz.prog 110 [.agg (Q2 l), .agg (Qz a), .agg (Qz b)] (.tup [.agg (Qz (QR l a b)), i64 0]) := by
  have h := QmI l a b (fun _ => Qp1 (X0 hc) ha hb sa sb)
  rw [Qfj (QeO hc (by simp [ha, hb])) (QjJ (X0 hc) ha)] at h
  exact h
 refine Jf [.c 6 30 4 true] ⟨⟨inferInstance, rfl⟩, trivial⟩ Tryz.func63 rfl rfl 17 Tryz.ntmps63 (Nat.le_of_ble_eq_true rfl) ?_
 intro E hN
 refine X6 ?_; refine zP (Qc cJ rfl rfl rfl) ?_; refine X6 ?_; refine Qh ?_
 change (resY _ _).bind AV.fzt = some _
 refine XD rfl ?_
 rfl
theorem Qed (l : QD) (a : Qw) (hc : Xp l = 0) (ha : Qt a l = true) (sa : J6 100000 a) : FC Tryz.prog 63 [.agg (Q2 l), .agg (Qz a), .agg (Qz a)] (.agg (Qz a)) := by
 have h := Qke l a a hc ha ha sa sa
 rwa [Qhw (X0 hc) ha] at h
theorem Qai (l : QD) (s : Pr) (hc : Xp l = 0) (he : Qt s.v l = true) (sv : J6 100000 s.v) : GC Tryz.prog 22 [.ptr QB 0] (prH l s) (.agg (Qz s.v)) (prH l s) := by
 refine KK [.c 2 30 4 true] ⟨⟨inferInstance, rfl⟩, trivial⟩ Tryz.func22 rfl rfl 16 Tryz.ntmps22 (Nat.le_of_ble_eq_true rfl) ?_
 intro E hN
 refine QF ?_; refine Qd 13 (by kernel_rfl) (by kernel_rfl) ?_; refine zm ?_; refine zp (Qe rfl rfl rfl) ?_; refine Qs ?_
 refine zp (Qe rfl rfl rfl) ?_; refine Qs ?_; refine zp (Qe rfl rfl rfl) ?_; refine Qu ?_
 refine zp (Qc (Qed l s.v hc he sv) rfl rfl rfl) ?_; change Qj _ _ _ _ _ _; refine Qu ?_; refine Qh ?_
 change (resY _ _).bind AV.fzt = some _ ∧ _
 refine Qeh rfl ?_ rfl ?_ rfl rfl ?_ (QO _)
 all_goals rfl
theorem Qf1 (l : QD) (s : Pr) : GC Tryz.prog 23 [.ptr QB 0] (prH l s) (i64 s.num) (prH l s) := by
 refine XL [2] Tryz.func23 rfl rfl 7 Tryz.ntmps23 (Nat.le_of_ble_eq_true rfl) ?_
 intro E hN
 refine Q4 ?_; refine zP (Qe rfl rfl rfl) ?_; refine Qv ?_; refine Qh ?_
 change (Xa _ _).fzt = some _ ∧ _
 refine YJ rfl ?_ rfl ?_ rfl rfl ?_ (QO _)
 all_goals rfl
def Qfu (s : Pr) : Qw := if s.dec then s.v else Qw.zero
theorem QfN (l : QD) (s : Pr) (hc : Xp l = 0) (he : Qt s.v l = true) (sv : J6 100000 s.v) : GC Tryz.prog 19 [.ptr QB 0] (prH l s) (.tup [.agg (Qz (Qfu s)), bl s.dec]) (prH l s) := by
 refine KK [.c 2 30 4 true, .t 3] ⟨⟨inferInstance, rfl⟩, trivial⟩ Tryz.func19 rfl rfl 12 Tryz.ntmps19 (Nat.le_of_ble_eq_true rfl) ?_
 intro E hN
 refine JA ?_; refine zP (Qe rfl rfl rfl) ?_; refine Qv ?_
 refine zq ?_ ?_ <;> intro h4
 ·
  have hd : s.dec = false := by simpa using h4
  refine Q8 ?_; refine Qh ?_
  change (resY _ _).bind AV.fzt = some _ ∧ _
  refine Qeh rfl ?_ rfl ?_ rfl rfl ?_ (QO _)
  all_goals first | rfl | (rw [Qfu, hd]; rfl)
 have hd : s.dec = true := by simpa using h4
 refine Qv ?_; refine zP (XE QB (QB + 1) (Qai l s hc he sv) (Xe _) rfl rfl rfl rfl rfl rfl rfl rfl rfl rfl) ?_; refine Qs ?_
 refine Qh ?_
 change (resY _ _).bind AV.fzt = some _ ∧ _
 refine Qeh rfl ?_ rfl ?_ rfl rfl ?_ (QO _)
 all_goals first | rfl | (rw [Qfu, hd]; rfl)
theorem Qek (l : QD) (s : Pr) (hc : Xp l = 0) (he : Qt s.v l = true) (sv : J6 100000 s.v) (h1 : 1 ≤ s.n) (h2 : s.n ≤ 12) : GC Tryz.prog 25 [.ptr QB 0] (prH l s) (bals (Qfd s)) (prH l s) := by
 refine XL [2] Tryz.func25 rfl rfl 43 Tryz.ntmps25 (Nat.le_of_ble_eq_true rfl) ?_
 intro E hN
 refine X6 ?_; refine zP (Qe rfl rfl rfl) ?_; refine QF ?_; refine QI (Qce rfl 3 54 8 rfl) ?_
 refine Ql (fun x : {i : Nat // i ≤ s.n.toNat} => ⟨[(0, .ptr QB 0), (3, .sl ((Qa4 s x.1).map fun b => Jx b) (some 0)), (8, i64 s.n), (9, i64 (x.1 : Nat))], [(QB, .var 118 (prC l s (.own (QB + 1) s.nk.length))), (QB + 1, .arr 30 4 (s.nk.map JV)), (0, .tok 54 8 (Qa4 s x.1).length)], 1⟩) (fun x => s.n.toNat - x.1) (⟨0, Nat.zero_le _⟩) ?_ ?_
 ·
  exact Qa rfl (JH trivial) ⟨rfl, rfl, rfl, rfl, rfl, (QO _), rfl, rfl, rfl, trivial⟩
 rintro ⟨i, hi⟩
 dsimp only
 refine QF ?_
 refine zq ?_ ?_ <;> intro h8
 rotate_left
 ·
  have hge : ¬ (i : Int) < s.n := by simpa using h8
  obtain rfl : i = s.n.toNat := by omega
  refine Q8 ?_; refine Qh ?_
  change (Xa _ _).fzt = some _ ∧ _
  refine YJ rfl ?_ rfl ?_ rfl rfl ?_ (QO _)
  all_goals rfl
 have hlt : (i : Int) < s.n := by simpa using h8
 have hi12 : i < 12 := by omega
 refine Jv ?_; refine zP (Qe rfl rfl rfl) ?_; refine Qv ?_
 refine zc 17 ?_ ?_ <;> intro h10
 rotate_left
 ·
  refine Ki ?_; refine Qb ?_
  exact ⟨⟨i + 1, by omega⟩, Qa rfl (Xv ⟨(by first | (rw [Wx hy, List.map_append]; rfl) | (rw [Yi hy]; rfl) | (rw [Yi (by simp_all)]; rfl)), rfl, rfl, rfl, (Q0 (by dsimp only; omega)), rfl, trivial⟩) ⟨rfl, rfl, rfl, rfl, rfl, (QO _), (by first | (rw [Wx hy, List.length_append, List.length_append, List.length_map]; rfl) | (rw [Yi hy]; rfl) | (rw [Yi (by simp_all)]; rfl)), rfl, rfl, trivial⟩, by dsimp only; omega⟩
 refine Qu ?_; refine uP (XG (m0 (n1 h10))) (Qe rfl rfl rfl) ?_; refine Jk ?_
 refine uP (XG (m0 (n1 h10))) (Ky rfl rfl rfl i rfl hi12 rfl rfl) ?_; refine uP (XG (m0 (n1 h10))) (QbR rfl rfl (Qpg hi12 rfl) rfl rfl) ?_
 refine Qs ?_
 refine zq ?_ ?_ <;> intro h13
 rotate_left
 ·
  have hy : (!s.dec && !s.rep i) = false := by simp_all
  refine Qv ?_; refine Qb ?_
  exact ⟨⟨i + 1, by omega⟩, Qa rfl (Xv ⟨(by first | (rw [Wx hy, List.map_append]; rfl) | (rw [Yi hy]; rfl) | (rw [Yi (by simp_all)]; rfl)), rfl, rfl, rfl, (Q0 (by dsimp only; omega)), rfl, trivial⟩) ⟨rfl, rfl, rfl, rfl, rfl, (QO _), (by first | (rw [Wx hy, List.length_append, List.length_append, List.length_map]; rfl) | (rw [Yi hy]; rfl) | (rw [Yi (by simp_all)]; rfl)), rfl, rfl, trivial⟩, by dsimp only; omega⟩
 have hy : (!s.dec && !s.rep i) = true := by simp_all
 refine Qd 14 (by kernel_rfl) (by kernel_rfl) ?_; refine Qu ?_; refine zp (Qe rfl rfl rfl) ?_; refine Qv ?_
 refine zp (Qe rfl rfl rfl) ?_; refine Qs ?_
 refine zp (XE QB (QB + 1) (Qai l s hc he sv) (Xe _) rfl rfl rfl rfl rfl rfl rfl rfl rfl rfl) ?_
 refine zp (JS rfl rfl rfl) ?_; refine zp (QE rfl rfl rfl rfl (by exact rfl) (by decide) (by decide)) ?_; change Qj _ _ _ _ _ _
 refine QG hN rfl rfl rfl (by simp) rfl rfl (QiU (fun _ => rfl) _) rfl (by rw [List.length_map]; have := QkS s i; refine ⟨?_, ?_⟩ <;> simp [Qo] <;> omega) rfl rfl rfl rfl ?_
 refine QF ?_; refine Qb ?_
 exact ⟨⟨i + 1, by omega⟩, Qa rfl (Xv ⟨(by first | (rw [Wx hy, List.map_append]; rfl) | (rw [Yi hy]; rfl) | (rw [Yi (by simp_all)]; rfl)), rfl, rfl, rfl, (Q0 (by dsimp only; omega)), rfl, trivial⟩) ⟨rfl, rfl, rfl, rfl, rfl, (QO _), (by first | (rw [Wx hy, List.length_append, List.length_append, List.length_map]; rfl) | (rw [Yi hy]; rfl) | (rw [Yi (by simp_all)]; rfl)), rfl, rfl, trivial⟩, by dsimp only; omega⟩
end Go.Proofs.YtnkkokmmeplbgaaGreat
