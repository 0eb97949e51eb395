/-
  Plain: what a node does in one act, and what stays true of i
-/
import Derived.Test.YtnkkokmmeplbgaaGreatN5
import Derived.Test.YtnkkokmmeplbgaaGreatB16
import Derived.Test.YtnkkokmmeplbgaaGreatN8
import Derived.Test.YtnkkokmmeplbgaaGreatA10
namespace Go.Proofs.YtnkkokmmeplbgaaGreat
set_option maxRecDepth 100000
set_option maxHeartbeats 1000000
open Go.RowKit
section
variable {l : Qv} (hO : YM l)
include hO
theorem QdE {A B : List Qp} (hA : ∀ v ∈ A, Qw v l = true) (hB : ∀ v ∈ B, Qw v l = true) (h : ∀ v ∈ A, v ∈ B) : QJ l (YL l A) (YL l B) = true :=
 (Ko hO hA).2.2 _ (Ko hO hB).1 fun v hv => (Ko hO hB).2.1 v (h v hv)
theorem QoP {A B : List Qp} (hA : ∀ v ∈ A, Qw v l = true) (hB : ∀ v ∈ B, Qw v l = true) (h : ∀ v ∈ A, v ∈ B) (h2 : ∀ v ∈ B, v ∈ A) : YL l A = YL l B :=
 Qaw l hO _ _ (Ko hO hA).1 (Ko hO hB).1 (QdE hO hA hB h) (QdE hO hB hA h2)
theorem Ql9 {A B : List Qp} (hA : ∀ v ∈ A, Qw v l = true) (hB : ∀ v ∈ B, Qw v l = true) : Qk l (YL l A) (YL l B) = YL l (A ++ B) := by
 have hAB : ∀ v ∈ A ++ B, Qw v l = true := fun v hv => (List.mem_append.1 hv).elim (hA v) (hB v)
 have a := Ko hO hA
 have b := Ko hO hB
 have L := QbP l hO _ _ a.1 b.1
 refine Qaw l hO _ _ L.el (Ko hO hAB).1 (L.least _ (Ko hO hAB).1 (QdE hO hA hAB fun v hv => List.mem_append_left _ hv) (QdE hO hB hAB fun v hv => List.mem_append_right _ hv)) ((Ko hO hAB).2.2 _ L.el fun v hv => ?_)
 rcases List.mem_append.1 hv with hv | hv
 ·exact Qa5 l hO _ _ _ (hA v hv) a.1 L.el (a.2.1 v hv) L.le1
 exact Qa5 l hO _ _ _ (hB v hv) b.1 L.el (b.2.1 v hv) L.le2
end
def Gen (l : Qv) (X : List Qp) (v : Qp) : Prop := ∃ S : List Qp, (∀ x ∈ S, x ∈ X) ∧ v = YL l S
def Giv (l : Qv) (X : List Qp) : Prop := ∀ x ∈ X, El l 40 x
theorem Gen.bot {l : Qv} {X : List Qp} : Gen l X (Qn l) := ⟨[], by simp, rfl⟩
theorem Gen.up {l : Qv} {X Y : List Qp} {v : Qp} (h : Gen l X v) (hs : ∀ x ∈ X, x ∈ Y) : Gen l Y v := by
 obtain ⟨S, h1, h2⟩ := h;exact ⟨S, fun x hx => hs x (h1 x hx), h2⟩
theorem Gen.of {l : Qv} (hO : YM l) {X : List Qp} (hX : Giv l X) {v : Qp} (h : v ∈ X) : Gen l X v := ⟨[v], by simp [h], (Qk5 hO (hX v h).1).symm⟩
theorem Gen.join {l : Qv} (hO : YM l) {X : List Qp} (hX : Giv l X) {a b : Qp} (ha : Gen l X a) (hb : Gen l X b) : Gen l X (Qk l a b) := by
 obtain ⟨S, s1, rfl⟩ := ha;obtain ⟨T, t1, rfl⟩ := hb;exact ⟨S ++ T, fun x hx => (List.mem_append.1 hx).elim (s1 x) (t1 x), Ql9 hO (fun v hv => (hX v (s1 v hv)).1) (fun v hv => (hX v (t1 v hv)).1)⟩
open Classical in
theorem Gen.el {l : Qv} (hO : YM l) {X : List Qp} (hX : Giv l X) (hl : X.length ≤ 90) {v : Qp} (h : Gen l X v) : El l 4000 v := by
 obtain ⟨S, s1, rfl⟩ := h
 have e : YL l S = YL l (X.filter fun x => decide (x ∈ S)) := QoP hO (fun v hv => (hX v (s1 v hv)).1) (fun v hv => (hX v (List.mem_filter.1 hv).1).1) (fun v hv => List.mem_filter.2 ⟨s1 v hv, by simpa using hv⟩) (fun v hv => by simpa using (List.mem_filter.1 hv).2)
 rw [e]
 have h1 := Qgt hO (X.filter fun x => decide (x ∈ S)) (Qn l) 64 (Nat.le_refl _) (El.bot hO) (fun v hv => hX v (List.mem_filter.1 hv).1)
 have h2 := List.length_filter_le (fun x => decide (x ∈ S)) X
 exact h1.up (by omega)
structure Act where
 k : Int
 v : Qp
 m : YB
abbrev Nst := (Nd × Option Pp) × List YB
def Qcm (l : Qv) (s : Nd) (c : Option Pp) (v : Qp) : Nst × Int :=
 if XR l v = false then (((s, c), []), 4) else
 match c with
 | some p => ((({ s with wt := Qk l s.wt v }, some p), []), 0)
 | none => (QjE l { s with wt := Qk l s.wt v }, 0)
def Qda (l : Qv) (s : Nd) (p : Pp) : Nst := if QJ l p.v s.lrn then Qls l s else ((s, some p), [])
def Qew (l : Qv) (s : Nd) (p : Pp) : Nst := if Kq s p then ((Qls l (QT l s p)).1, W5 (QT l s p) ++ (Qls l (QT l s p)).2) else ((s, some p), [])
def W9 (l : Qv) (s : Nd) (c : Option Pp) (m : YB) : Nst × Int :=
 if ¬ J5 l s m = 0 then (((s, c), []), J5 l s m) else
 if m.k = 1 then ((({ s with acc := Qk l s.acc m.v }, c), [QbV l s m]), 0) else
 match c with
 | none => (((if m.k = 4 then Xi l s m else s, none), []), 0)
 | some p =>
  if m.k = 4 then (Qda l (Xi l s m) p, 0) else
  if ¬ m.n = s.num then (((s, some p), []), 0) else
  if m.k = 2 then (Qew l s { p with ack := Yp p.ack m.f.toNat true }, 0) else (((s, some { p with g := Qk l p.g m.v }), []), 0)
def QcS (l : Qv) (s : Nd) (p : Pp) : Pp := { p with v := Qk l (Qk l p.v p.g) s.acc, ref := p.ref + 1 }
def Qil (l : Qv) (s : Nd) (c : Option Pp) : Nst :=
 match c with
 | none => ((s, none), if WH s.lrn (Qn l) then [] else W5 s)
 | some p => if QJ l p.g p.v then ((s, some p), JD s p (fun i => !p.ack i)) else ((Qc2 s (QcS l s p), some (Qbw l s (QcS l s p))), JD (Qc2 s (QcS l s p)) (Qbw l s (QcS l s p)) Xv)
def XH (l : Qv) (s : Nd) (c : Option Pp) (a : Act) : Nst × Int :=
 if a.k = 0 then Qcm l s c a.v else if a.k = 1 then W9 l s c a.m else if a.k = 2 then (Qil l s c, 0) else (((s, c), []), 0)
structure QaF (l : Qv) (X : List Qp) (s : Nd) (c : Option Pp) (k : Nat) : Prop where
 n1 : 1 ≤ s.n
 n2 : s.n ≤ 12
 s0 : 0 ≤ s.self
 s1 : s.self < s.n
 acc : Gen l X s.acc
 lrn : Gen l X s.lrn
 wt : Gen l X s.wt
 num0 : 0 ≤ s.num
 num1 : s.num ≤ k
 p : ∀ p, c = some p → Gen l X p.v ∧ Gen l X p.g ∧ (∀ i, s.n.toNat ≤ i → p.ack i = false) ∧ 2 ≤ s.n ∧ 0 ≤ p.ref ∧ p.ref ≤ k
theorem QlA {l : Qv} {s : Nd} {p : Pp} (s0 : 0 ≤ s.self) (s1 : s.self < 12) : Kq (Qc2 s p) (Qbw l s p) = decide (QdI s.n ≤ 1) := by
 show decide (QdI s.n ≤ (QtD (Yp (fun _ => false) s.self.toNat true) : Int)) = _
 rw [Qnd (by omega)]; rfl
theorem QaF.up {l : Qv} {X Y : List Qp} {s : Nd} {c : Option Pp} {k j : Nat} (h : QaF l X s c k) (hk : k ≤ j) (hs : ∀ x ∈ X, x ∈ Y) : QaF l Y s c j := by
 have h1 := h.num1
 refine ⟨h.n1, h.n2, h.s0, h.s1, h.acc.up hs, h.lrn.up hs, h.wt.up hs, h.num0, by omega, fun p hp => ?_⟩;obtain ⟨a, b, d, e, f, g⟩ := h.p p hp;exact ⟨a.up hs, b.up hs, d, e, f, by omega⟩
section
variable {l : Qv} (hO : YM l) {X : List Qp} (hX : Giv l X) {s : Nd} {k : Nat}
include hO hX
theorem Qln {c : Option Pp} (h : QaF l X s c k) : QaF l X (QjE l s).1.1 (QjE l s).1.2 (k + 1) := by
 have hv : Gen l X (Qk l s.acc s.wt) := h.acc.join hO hX h.wt
 have h0 := h.s0; have h1 := h.s1; have h2 := h.n2; have h3 := h.num0; have h4 := h.num1
 have hq : Kq (Xq l s) (Q1 l s) = decide (QdI s.n ≤ 1) := QlA (s := { s with wt := Qn l }) h0 (by show s.self < 12; omega)
 unfold QjE
 cases hb : Kq (Xq l s) (Q1 l s) with
 | true =>
  rw [if_pos rfl];refine ⟨h.n1, h.n2, h.s0, h.s1, hv, ?_, Gen.bot, ?_, ?_, fun p hp => by cases hp⟩
  ·show Gen l X (if QJ l s.lrn (Qk l s.acc s.wt) then Qk l s.acc s.wt else s.lrn)
   split
   ·exact hv
   exact h.lrn
  ·show 0 ≤ s.num + 1; omega
  show s.num + 1 ≤ ((k + 1 : Nat) : Int); omega
 | false =>
  rw [if_neg (by decide)];refine ⟨h.n1, h.n2, h.s0, h.s1, hv, h.lrn, Gen.bot, ?_, ?_, fun p hp => ?_⟩
  ·show 0 ≤ s.num + 1; omega
  ·show s.num + 1 ≤ ((k + 1 : Nat) : Int); omega
  cases hp
  refine ⟨hv, Gen.bot, fun i hi => ?_, ?_, Int.le_refl _, by show (0 : Int) ≤ ((k + 1 : Nat) : Int); omega⟩
  ·show Yp (fun _ => false) s.self.toNat true i = false
   have hi : s.n.toNat ≤ i := hi
   rw [Yp, if_neg (by omega)]
  rw [hb] at hq
  have h5 : ¬ QdI s.n ≤ 1 := by simpa using hq.symm
  show 2 ≤ s.n
  have := h.n1
  unfold QdI at h5
  omega
theorem QkJ {c : Option Pp} (h : QaF l X s c k) : QaF l X (Qls l s).1.1 (Qls l s).1.2 (k + 1) := by
 unfold Qls
 cases WH s.wt (Qn l) with
 | true => rw [if_pos rfl]; exact { (h.up (Nat.le_succ k) fun _ h => h) with p := fun p hp => by cases hp }
 | false => rw [if_neg (by decide)]; exact Qln hO hX h
omit hO hX in
theorem Qp7 {p : Pp} (h : QaF l X s (some p) k) : QaF l X (QT l s p) (some p) k := by
 refine { h with lrn := ?_ }
 show Gen l X (if QJ l s.lrn p.v then p.v else s.lrn)
 split
 ·exact (h.p p rfl).1
 exact h.lrn
omit hO hX in
theorem Qkm {c : Option Pp} {m : YB} (h : QaF l X s c k) (hm : Gen l X m.v) : QaF l X (Xi l s m) c k := by
 refine { h with lrn := ?_ }
 show Gen l X (if QJ l s.lrn m.v then m.v else s.lrn)
 split
 ·exact hm
 exact h.lrn
theorem QoS {c : Option Pp} {v : Qp} (h : QaF l X s c k) (hv : XR l v = true → Gen l X v) : QaF l X (Qcm l s c v).1.1.1 (Qcm l s c v).1.1.2 (k + 1) := by
 unfold Qcm
 cases hb : XR l v with
 | false => rw [if_pos rfl]; exact h.up (Nat.le_succ k) fun _ h => h
 | true =>
  rw [if_neg (by decide)]
  have hw : Gen l X (Qk l s.wt v) := h.wt.join hO hX (hv hb)
  cases c with
  | some p => exact { (h.up (Nat.le_succ k) fun _ h => h) with wt := hw }
  | none => exact Qln hO hX (s := { s with wt := Qk l s.wt v }) (c := none) { h with wt := hw }
theorem QpA {c : Option Pp} {m : YB} (h : QaF l X s c k) (hm : J5 l s m = 0 → m.k ≠ 2 → Gen l X m.v) : QaF l X (W9 l s c m).1.1.1 (W9 l s c m).1.1.2 (k + 1) := by
 have hu := h.up (Nat.le_succ k) (fun _ h => h)
 unfold W9
 by_cases hok : J5 l s m = 0
 ·rw [if_neg (fun hn => hn hok)]
  by_cases k1 : m.k = 1
  ·rw [if_pos k1]
   exact { hu with acc := h.acc.join hO hX (hm hok (by omega)) }
  rw [if_neg k1]
  cases c with
  | none =>
   show QaF l X (if m.k = 4 then Xi l s m else s) none (k + 1)
   by_cases k4 : m.k = 4
   ·rw [if_pos k4]; exact Qkm hu (hm hok (by omega))
   rw [if_neg k4]; exact hu
  | some p =>
   obtain ⟨pv, pg, pa, p2, r0, r1⟩ := h.p p rfl
   show QaF l X (if m.k = 4 then (Qda l (Xi l s m) p, (0 : Int)) else if ¬ m.n = s.num then (((s, some p), []), 0) else if m.k = 2 then (Qew l s { p with ack := Yp p.ack m.f.toNat true }, 0) else (((s, some { p with g := Qk l p.g m.v }), []), 0)).1.1.1 (if m.k = 4 then (Qda l (Xi l s m) p, (0 : Int)) else if ¬ m.n = s.num then (((s, some p), []), 0) else if m.k = 2 then (Qew l s { p with ack := Yp p.ack m.f.toNat true }, 0) else (((s, some { p with g := Qk l p.g m.v }), []), 0)).1.1.2 (k + 1)
   by_cases k4 : m.k = 4
   ·rw [if_pos k4]
    have hl := Qkm h (hm hok (by omega))
    show QaF l X (Qda l (Xi l s m) p).1.1 (Qda l (Xi l s m) p).1.2 (k + 1)
    unfold Qda
    cases QJ l p.v (Xi l s m).lrn with
    | true => rw [if_pos rfl]; exact QkJ hO hX hl
    | false => rw [if_neg (by decide)]; exact hl.up (Nat.le_succ k) fun _ h => h
   rw [if_neg k4]
   by_cases kn : m.n = s.num
   ·rw [if_neg (fun hn => hn kn)]
    by_cases k2 : m.k = 2
    ·rw [if_pos k2]
     have hr := Y9 hok
     have hp2 : QaF l X s (some { p with ack := Yp p.ack m.f.toNat true }) k := by
      refine ⟨h.n1, h.n2, h.s0, h.s1, h.acc, h.lrn, h.wt, h.num0, h.num1, fun q hq => ?_⟩
      cases hq
      refine ⟨pv, pg, fun i hi => ?_, p2, r0, r1⟩
      show Yp p.ack m.f.toNat true i = false
      rw [Yp, if_neg (by omega)]; exact pa i hi
     show QaF l X (Qew l s { p with ack := Yp p.ack m.f.toNat true }).1.1 (Qew l s { p with ack := Yp p.ack m.f.toNat true }).1.2 (k + 1)
     unfold Qew
     cases Kq s { p with ack := Yp p.ack m.f.toNat true } with
     | true => rw [if_pos rfl]; exact QkJ hO hX (Qp7 hp2)
     | false => rw [if_neg (by decide)]; exact hp2.up (Nat.le_succ k) fun _ h => h
    rw [if_neg k2];refine ⟨h.n1, h.n2, h.s0, h.s1, h.acc, h.lrn, h.wt, hu.num0, hu.num1, fun q hq => ?_⟩
    cases hq
    exact ⟨pv, pg.join hO hX (hm hok k2), pa, p2, r0, by show p.ref ≤ ((k + 1 : Nat) : Int); omega⟩
   rw [if_pos kn]; exact hu
 rw [if_pos hok]; exact hu
theorem QpE {c : Option Pp} (h : QaF l X s c k) : QaF l X (Qil l s c).1.1 (Qil l s c).1.2 (k + 1) := by
 have hu := h.up (Nat.le_succ k) (fun _ h => h)
 cases c with
 | none => exact hu
 | some p =>
  obtain ⟨pv, pg, pa, p2, r0, r1⟩ := h.p p rfl
  unfold Qil
  dsimp only
  cases QJ l p.g p.v with
  | true => rw [if_pos rfl]; exact hu
  | false =>
   rw [if_neg (by decide)]
   have hv : Gen l X (Qk l (Qk l p.v p.g) s.acc) := (pv.join hO hX pg).join hO hX h.acc
   have h3 := h.num0; have h4 := h.num1; have h0 := h.s0; have h1 := h.s1
   refine ⟨h.n1, h.n2, h.s0, h.s1, hv, h.lrn, h.wt, ?_, ?_, fun q hq => ?_⟩
   ·show 0 ≤ s.num + 1; omega
   ·show s.num + 1 ≤ ((k + 1 : Nat) : Int); omega
   cases hq
   refine ⟨hv, Gen.bot, fun i hi => ?_, p2, ?_, ?_⟩
   ·show Yp (fun _ => false) s.self.toNat true i = false
    have hi : s.n.toNat ≤ i := hi
    rw [Yp, if_neg (by omega)]
   ·show 0 ≤ p.ref + 1; omega
   show p.ref + 1 ≤ ((k + 1 : Nat) : Int); omega
theorem Qq3 {c : Option Pp} {a : Act} (h : QaF l X s c k) (hv : XR l a.v = true → Gen l X a.v) (hm : J5 l s a.m = 0 → a.m.k ≠ 2 → Gen l X a.m.v) : QaF l X (XH l s c a).1.1.1 (XH l s c a).1.1.2 (k + 1) := by
 unfold XH
 by_cases k0 : a.k = 0
 ·rw [if_pos k0]; exact QoS hO hX h hv
 rw [if_neg k0]
 by_cases k1 : a.k = 1
 ·rw [if_pos k1]; exact QpA hO hX h hm
 rw [if_neg k1]
 by_cases k2 : a.k = 2
 ·rw [if_pos k2]; exact QpE hO hX h
 rw [if_neg k2]; exact h.up (Nat.le_succ k) fun _ h => h
end
def Qs5 (l : Qv) (s : Nd) (c : Option Pp) (k : Nat) : Prop := ∃ X, X.length ≤ 2 * k ∧ Giv l X ∧ QaF l X s c k
theorem Wf {l : Qv} {v : Qp} (h : Qw v l = true) (hs : Qcq v 40 = true) : El l 40 v := ⟨h, Qkd hs⟩
theorem Qfq {l : Qv} {v : Qp} (h : XR l v = true) : Qw v l = true := by
 unfold XR at h
 simp at h
 exact h.2
theorem QrC {l : Qv} (hO : YM l) {s : Nd} {c : Option Pp} {k : Nat} {a : Act} (h : Qs5 l s c k) (h1 : Qcq a.v 40 = true) (h2 : Qcq a.m.v 40 = true) : Qs5 l (XH l s c a).1.1.1 (XH l s c a).1.1.2 (k + 1) := by
 obtain ⟨X, hl, hX, hI⟩ := h
 have key : ∃ Y : List Qp, Y.length ≤ X.length + 2 ∧ Giv l Y ∧ (∀ x ∈ X, x ∈ Y) ∧ (Qw a.v l = true → a.v ∈ Y) ∧ (Qw a.m.v l = true → a.m.v ∈ Y) := by
  refine ⟨(if Qw a.v l then [a.v] else []) ++ (if Qw a.m.v l then [a.m.v] else []) ++ X, ?_, fun x hx => ?_, fun x hx => List.mem_append_right _ hx, fun g => ?_, fun g => ?_⟩
  ·cases Qw a.v l <;> cases Qw a.m.v l <;> simp
  ·rcases List.mem_append.1 hx with hx | hx
   ·rcases List.mem_append.1 hx with hx | hx
    ·split at hx
     ·rename_i g; simp at hx; subst hx; exact Wf g h1
     simp at hx
    split at hx
    ·rename_i g; simp at hx; subst hx; exact Wf g h2
    simp at hx
   exact hX x hx
  ·rw [if_pos g]; simp
  rw [if_pos g]; simp
 obtain ⟨Y, y1, y2, y3, y4, y5⟩ := key;exact ⟨Y, by omega, y2, Qq3 hO y2 (hI.up (Nat.le_refl k) y3) (fun g => Gen.of hO y2 (y4 (Qfq g))) (fun g g2 => Gen.of hO y2 (y5 (Qcs g g2)))⟩
theorem Qhf {l : Qv} {s : Nd} (h2 : 2 ≤ s.n) (s0 : 0 ≤ s.self) (s1 : s.self < 12) : QjE l s = ((Xq l s, some (Q1 l s)), JD (Xq l s) (Q1 l s) Xv) := by
 unfold QjE
 rw [if_neg]
 rw [show Kq (Xq l s) (Q1 l s) = false from QjU (s := { s with wt := Qn l }) h2 s0 s1]; decide
theorem QtB {l : Qv} {s : Nd} (h1 : s.n = 1) (s0 : 0 ≤ s.self) (s1 : s.self < 12) : Kq (Xq l s) (Q1 l s) = true := by
 have h := QlA (s := { s with wt := Qn l }) (p := Qg7 l s) (l := l) s0 s1
 rw [show Kq (Xq l s) (Q1 l s) = _ from h]
 show decide (QdI s.n ≤ 1) = true
 rw [h1]; rfl
theorem Qrx {l : Qv} {s : Nd} (h : Kq (Xq l s) (Q1 l s) = true) : QjE l s = ((QT l (Xq l s) (Q1 l s), none), JD (Xq l s) (Q1 l s) Xv ++ W5 (QT l (Xq l s) (Q1 l s))) := if_pos h
theorem Qk2 {l : Qv} {s : Nd} (h : WH s.wt (Qn l) = true) : Qls l s = ((s, none), []) := if_pos h
theorem Qli {l : Qv} {s : Nd} (h : WH s.wt (Qn l) = false) : Qls l s = QjE l s := if_neg (by rw [h]; decide)
open Go.RowKit Go.ChangeShapes Go.WideShapes Go.ChangeAt
abbrev Qwa (a : Act) : List AV := i64 a.k :: i64 a.v.N :: XS a.v.nm :: Y8 a.v.ps :: WA a.v.es :: Jw a.m
abbrev Qpc (l : List Act) : AV := .sl (l.map fun a => Qwa a) none
section
variable {H : Type} {enc : TypeId × Value → H} {w : World} {base : Nat} {spare : Nat → Bool} {held : Bool}
theorem Qt1 {m : Nat} {ds : List Value} {y : DataW H × List MemPlace} (hdl : ds.length = 8) (ht : DataW.trod enc Tryz.prog w base spare held m 54 ds = some y) : ∃ b : YB, ∀ (i : Nat) (u : Value) (a : AV), ds[i]? = some u → (Jw b)[i]? = some a → FR w (QeT w) u a := by
 obtain ⟨u0, u1, u2, u3, u4, u5, u6, u7, rfl⟩ : ∃ a b c d e f g h, ds = [a, b, c, d, e, f, g, h] := by
  match ds, hdl with
  | [a, b, c, d, e, f, g, h], _ => exact ⟨a, b, c, d, e, f, g, h, rfl⟩
 obtain ⟨xs, k, -, rfl, hl, hlen, hf⟩ := DataW.trod_struct Tryz.underlying54 ht
 have f0 := hf 0 _ rfl
 have f1 := hf 1 _ rfl
 have f2 := hf 2 _ rfl
 have f3 := hf 3 _ rfl
 have f4 := hf 4 _ rfl
 have hx0 : xs[0]? = some (xs[0]'(by rw [hlen]; decide)) := List.getElem?_eq_getElem _
 have hx1 : xs[1]? = some (xs[1]'(by rw [hlen]; decide)) := List.getElem?_eq_getElem _
 have hx2 : xs[2]? = some (xs[2]'(by rw [hlen]; decide)) := List.getElem?_eq_getElem _
 have hx3 : xs[3]? = some (xs[3]'(by rw [hlen]; decide)) := List.getElem?_eq_getElem _
 have hx4 : xs[4]? = some (xs[4]'(by rw [hlen]; decide)) := List.getElem?_eq_getElem _
 obtain ⟨p0, hp0, -⟩ := DataW.trod_int Tryz.underlying3 (f0.trans hx0)
 have hq0 : [u0] = [Value.int .i64 p0] := hp0
 obtain ⟨p1, hp1, -⟩ := DataW.trod_int Tryz.underlying3 (f1.trans hx1)
 have hq1 : [u1] = [Value.int .i64 p1] := hp1
 obtain ⟨p2, hp2, -⟩ := DataW.trod_int Tryz.underlying3 (f2.trans hx2)
 have hq2 : [u2] = [Value.int .i64 p2] := hp2
 obtain ⟨p3, hp3, -⟩ := DataW.trod_int Tryz.underlying3 (f3.trans hx3)
 have hq3 : [u3] = [Value.int .i64 p3] := hp3
 simp only [List.cons.injEq, and_true] at hq0 hq1 hq2 hq3
 subst hq0 hq1 hq2 hq3
 obtain ⟨-, z, hz⟩ := QrM _ _ _ (f4.trans hx4);refine ⟨⟨p0, p1, p2, p3, z⟩, fun i u a hi ha => ?_⟩
 match i, hi, ha with
 | 0, hi, ha => simp at hi ha; subst hi ha; exact .p _
 | 1, hi, ha => simp at hi ha; subst hi ha; exact .p _
 | 2, hi, ha => simp at hi ha; subst hi ha; exact .p _
 | 3, hi, ha => simp at hi ha; subst hi ha; exact .p _
 | 4, hi, ha => exact hz 0 u a hi ha
 | 5, hi, ha => exact hz 1 u a hi ha
 | 6, hi, ha => exact hz 2 u a hi ha
 | 7, hi, ha => exact hz 3 u a hi ha
 | i + 8, hi, _ => simp at hi
theorem Qop {fuel : Nat} {v : Value} {x : DataW H × List MemPlace} (h : DataW.trod enc Tryz.prog w base spare held fuel 74 [v] = some x) : ∃ l : List Act, FR w (QeT w) v (Qpc l) :=
 Qci Tryz.underlying74 13 (by kernel_rfl) (by decide) h (fun b => Qwa b) (fun _ => rfl) (fun m ds y _ hdl ht => by
  obtain ⟨u0, u1, u2, u3, u4, u5, u6, u7, u8, u9, u10, u11, u12, rfl⟩ : ∃ a b c d e f g h i j k l m, ds = [a, b, c, d, e, f, g, h, i, j, k, l, m] := by
   match ds, hdl with
   | [a, b, c, d, e, f, g, h, i, j, k, l, m], _ => exact ⟨a, b, c, d, e, f, g, h, i, j, k, l, m, rfl⟩
  obtain ⟨xs, k, -, rfl, hl, hlen, hf⟩ := DataW.trod_struct Tryz.underlying84 ht
  have f0 := hf 0 _ rfl
  have f1 := hf 1 _ rfl
  have f2 := hf 2 _ rfl
  have hx0 : xs[0]? = some (xs[0]'(by rw [hlen]; decide)) := List.getElem?_eq_getElem _
  have hx1 : xs[1]? = some (xs[1]'(by rw [hlen]; decide)) := List.getElem?_eq_getElem _
  have hx2 : xs[2]? = some (xs[2]'(by rw [hlen]; decide)) := List.getElem?_eq_getElem _
  obtain ⟨p0, hp0, -⟩ := DataW.trod_int Tryz.underlying3 (f0.trans hx0)
  have hq0 : [u0] = [Value.int .i64 p0] := hp0
  simp only [List.cons.injEq, and_true] at hq0
  subst hq0
  obtain ⟨-, z, hz⟩ := QrM _ _ _ (f1.trans hx1);obtain ⟨b, hb⟩ := Qt1 (by rfl) (f2.trans hx2);refine ⟨⟨p0, z, b⟩, fun i u a hi ha => ?_⟩
  match i, hi, ha with
  | 0, hi, ha => simp at hi ha; subst hi ha; exact .p _
  | 1, hi, ha => exact hz 0 u a hi ha
  | 2, hi, ha => exact hz 1 u a hi ha
  | 3, hi, ha => exact hz 2 u a hi ha
  | 4, hi, ha => exact hz 3 u a hi ha
  | i + 5, hi, ha => exact hb i u a hi ha)
end
abbrev Qg6 (l : Qv) (s : Nd) : Option Pp → List (Nat × Qs)
 | none => [(1, .var 131 (Xy l s Jv)), (2, .var 80 (XZ l s false Qp.zero Qp.zero (.sl [] none) 0))]
 | some p => [(1, .var 131 (Xy l s (.ptr 3 0))), (3, .var 137 (Jk p)), (2, .var 80 (XZ l s true p.v p.g (.own 4 s.n.toNat) p.ref)), (4, .arr 4 1 ((QL s.n.toNat p.ack).map Xw))]
abbrev plT (cs : List Act) (k : Nat) : List (Nat × AV) := [(3, Qpc cs), (9, .ptr 1 0), (11, .ptr 2 0), (13, i64 (k : Nat))]
abbrev plO (cs : List Act) (k : Nat) (out : List YB) (e : Int) : List (Nat × AV) := [(3, Qpc cs), (9, .ptr 1 0), (11, .ptr 2 0), (13, i64 (k : Nat)), (14, Y4 out), (15, Y4 out), (16, i64 e), (17, i64 e)]
theorem WM {E : Jp} {t : List (Nat × AV)} {H : List (Nat × Qs)} {nx : Nat} {cs : List Act} {k : Nat} {out : List YB} {e : Int} {l : Qv} {s : Nd} (ht : QhP ⟨t, H, nx⟩ 5 (plO cs k out e))
  (h1 : Qj H 1 = some (.var 131 (Xy l s Jv))) (h2 : Qj H 2 = some (.var 80 (XZ l s false Qp.zero Qp.zero (.sl [] none) 0))) : KE E ⟨t, H, nx⟩ ⟨plO cs k out e, Qg6 l s none, 5⟩ :=
 Qa rfl ht ⟨h1, rfl, rfl, h2, rfl, rfl, trivial⟩
theorem K1 {E : Jp} {t : List (Nat × AV)} {H : List (Nat × Qs)} {nx : Nat} {cs : List Act} {k : Nat} {out : List YB} {e : Int} {l : Qv} {s : Nd} {p : Pp} (ht : QhP ⟨t, H, nx⟩ 5 (plO cs k out e))
  (h1 : Qj H 1 = some (.var 131 (Xy l s (.ptr 3 0)))) (h3 : Qj H 3 = some (.var 137 (Jk p))) (h2 : Qj H 2 = some (.var 80 (XZ l s true p.v p.g (.own 4 s.n.toNat) p.ref))) (h4 : Qj H 4 = some (.arr 4 1 ((QL s.n.toNat p.ack).map Xw))) : KE E ⟨t, H, nx⟩ ⟨plO cs k out e, Qg6 l s (some p), 5⟩ :=
 Qa rfl ht ⟨h1, rfl, rfl, h3, rfl, rfl, h2, rfl, rfl, h4, rfl, Yj (Qc _), trivial⟩
theorem QkO {E : Jp} {t : List (Nat × AV)} {H : List (Nat × Qs)} {cs : List Act} {k : Nat} {out : List YB} {e : Int} {l : Qv} {s : Nd} {p : Pp} (ht : QhP ⟨t, H, 13⟩ 13 (plO cs k out e))
  (h1 : Qj H 1 = some (.var 131 (Xy l s (.ptr 6 0)))) (h3 : Qj H 6 = some (.var 137 (Jk p))) (h2 : Qj H 2 = some (.var 80 (XZ l s true p.v p.g (.own 10 s.n.toNat) p.ref))) (h4 : Qj H 10 = some (.arr 4 1 ((QL s.n.toNat p.ack).map Xw))) : KE E ⟨t, H, 13⟩ ⟨plO cs k out e, Qg6 l s (some p), 5⟩ := by
 have w1 : KE E ⟨t, H, 13⟩ ⟨plO cs k out e, [(1, .var 131 (Xy l s (.ptr 6 0))), (6, .var 137 (Jk p)), (2, .var 80 (XZ l s true p.v p.g (.own 10 s.n.toNat) p.ref)), (10, .arr 4 1 ((QL s.n.toNat p.ack).map Xw))], 13⟩ := Qa rfl ht ⟨h1, rfl, rfl, h3, rfl, rfl, h2, rfl, rfl, h4, rfl, Yj (Qc _), trivial⟩
 have hin : ((QL s.n.toNat p.ack).map Xw).flatten.all (Qbg [(1, .var 131 (Xy l s (.ptr 6 0))), (6, .var 137 (Jk p)), (2, .var 80 (XZ l s true p.v p.g (.own 10 s.n.toNat) p.ref)), (10, .arr 4 1 ((QL s.n.toNat p.ack).map Xw))]) = true := Ke (Qc _)
 have w2 : KE E ⟨plO cs k out e, [(1, .var 131 (Xy l s (.ptr 6 0))), (6, .var 137 (Jk p)), (2, .var 80 (XZ l s true p.v p.g (.own 10 s.n.toNat) p.ref)), (10, .arr 4 1 ((QL s.n.toNat p.ack).map Xw))], 13⟩ ⟨plO cs k out e, [(1, .var 131 (Xy l s (.ptr 3 0))), (3, .var 137 (Jk p)), (2, .var 80 (XZ l s true p.v p.g (.own 4 s.n.toNat) p.ref)), (4, .arr 4 1 ((QL s.n.toNat p.ack).map Xw))], 13⟩ := by
  refine Qhs [(6, 3), (10, 4)] ?_ rfl ?_
  ·unfold Qk8
   simp only [List.all_cons, List.all_nil, Qs.cells, hin]
   rfl
  simp only [rnH, List.map_cons, List.map_nil, Wm, QcO (Qc (QL s.n.toNat p.ack))]
  rfl
 exact (w1.trans w2).trans (K1 ⟨rfl, rfl, rfl, rfl, rfl, rfl, rfl, rfl, rfl, rfl, rfl, rfl, rfl, rfl, rfl, rfl, trivial⟩ rfl rfl rfl rfl)
theorem QpP {E : Jp} {t : List (Nat × AV)} {H : List (Nat × Qs)} {cs : List Act} {k : Nat} {out : List YB} {e : Int} {l : Qv} {s : Nd} {p : Pp} (ht : QhP ⟨t, H, 17⟩ 17 (plO cs k out e))
  (h1 : Qj H 1 = some (.var 131 (Xy l s (.ptr 8 0)))) (h3 : Qj H 8 = some (.var 137 (Jk p))) (h2 : Qj H 2 = some (.var 80 (XZ l s true p.v p.g (.own 14 s.n.toNat) p.ref))) (h4 : Qj H 14 = some (.arr 4 1 ((QL s.n.toNat p.ack).map Xw))) : KE E ⟨t, H, 17⟩ ⟨plO cs k out e, Qg6 l s (some p), 5⟩ := by
 have w1 : KE E ⟨t, H, 17⟩ ⟨plO cs k out e, [(1, .var 131 (Xy l s (.ptr 8 0))), (8, .var 137 (Jk p)), (2, .var 80 (XZ l s true p.v p.g (.own 14 s.n.toNat) p.ref)), (14, .arr 4 1 ((QL s.n.toNat p.ack).map Xw))], 17⟩ := Qa rfl ht ⟨h1, rfl, rfl, h3, rfl, rfl, h2, rfl, rfl, h4, rfl, Yj (Qc _), trivial⟩
 have hin : ((QL s.n.toNat p.ack).map Xw).flatten.all (Qbg [(1, .var 131 (Xy l s (.ptr 8 0))), (8, .var 137 (Jk p)), (2, .var 80 (XZ l s true p.v p.g (.own 14 s.n.toNat) p.ref)), (14, .arr 4 1 ((QL s.n.toNat p.ack).map Xw))]) = true := Ke (Qc _)
 have w2 : KE E ⟨plO cs k out e, [(1, .var 131 (Xy l s (.ptr 8 0))), (8, .var 137 (Jk p)), (2, .var 80 (XZ l s true p.v p.g (.own 14 s.n.toNat) p.ref)), (14, .arr 4 1 ((QL s.n.toNat p.ack).map Xw))], 17⟩ ⟨plO cs k out e, [(1, .var 131 (Xy l s (.ptr 3 0))), (3, .var 137 (Jk p)), (2, .var 80 (XZ l s true p.v p.g (.own 4 s.n.toNat) p.ref)), (4, .arr 4 1 ((QL s.n.toNat p.ack).map Xw))], 17⟩ := by
  refine Qhs [(8, 3), (14, 4)] ?_ rfl ?_
  ·unfold Qk8
   simp only [List.all_cons, List.all_nil, Qs.cells, hin]
   rfl
  simp only [rnH, List.map_cons, List.map_nil, Wm, QcO (Qc (QL s.n.toNat p.ack))]
  rfl
 exact (w1.trans w2).trans (K1 ⟨rfl, rfl, rfl, rfl, rfl, rfl, rfl, rfl, rfl, rfl, rfl, rfl, rfl, rfl, rfl, rfl, trivial⟩ rfl rfl rfl rfl)
theorem QsC {E : Jp} {t : List (Nat × AV)} {H : List (Nat × Qs)} {cs : List Act} {k : Nat} {out : List YB} {e : Int} {l : Qv} {s : Nd} {p : Pp} (ht : QhP ⟨t, H, 11⟩ 11 (plO cs k out e))
  (h1 : Qj H 1 = some (.var 131 (Xy l s (.ptr 3 0)))) (h3 : Qj H 3 = some (.var 137 (Jk p))) (h2 : Qj H 2 = some (.var 80 (XZ l s true p.v p.g (.own 8 s.n.toNat) p.ref))) (h4 : Qj H 8 = some (.arr 4 1 ((QL s.n.toNat p.ack).map Xw))) : KE E ⟨t, H, 11⟩ ⟨plO cs k out e, Qg6 l s (some p), 5⟩ := by
 have w1 : KE E ⟨t, H, 11⟩ ⟨plO cs k out e, [(1, .var 131 (Xy l s (.ptr 3 0))), (3, .var 137 (Jk p)), (2, .var 80 (XZ l s true p.v p.g (.own 8 s.n.toNat) p.ref)), (8, .arr 4 1 ((QL s.n.toNat p.ack).map Xw))], 11⟩ := Qa rfl ht ⟨h1, rfl, rfl, h3, rfl, rfl, h2, rfl, rfl, h4, rfl, Yj (Qc _), trivial⟩
 have hin : ((QL s.n.toNat p.ack).map Xw).flatten.all (Qbg [(1, .var 131 (Xy l s (.ptr 3 0))), (3, .var 137 (Jk p)), (2, .var 80 (XZ l s true p.v p.g (.own 8 s.n.toNat) p.ref)), (8, .arr 4 1 ((QL s.n.toNat p.ack).map Xw))]) = true := Ke (Qc _)
 have w2 : KE E ⟨plO cs k out e, [(1, .var 131 (Xy l s (.ptr 3 0))), (3, .var 137 (Jk p)), (2, .var 80 (XZ l s true p.v p.g (.own 8 s.n.toNat) p.ref)), (8, .arr 4 1 ((QL s.n.toNat p.ack).map Xw))], 11⟩ ⟨plO cs k out e, [(1, .var 131 (Xy l s (.ptr 3 0))), (3, .var 137 (Jk p)), (2, .var 80 (XZ l s true p.v p.g (.own 4 s.n.toNat) p.ref)), (4, .arr 4 1 ((QL s.n.toNat p.ack).map Xw))], 11⟩ := by
  refine Qhs [(8, 4)] ?_ rfl ?_
  ·unfold Qk8
   simp only [List.all_cons, List.all_nil, Qs.cells, hin]
   rfl
  simp only [rnH, List.map_cons, List.map_nil, Wm, QcO (Qc (QL s.n.toNat p.ack))]
  rfl
 exact (w1.trans w2).trans (K1 ⟨rfl, rfl, rfl, rfl, rfl, rfl, rfl, rfl, rfl, rfl, rfl, rfl, rfl, rfl, rfl, rfl, trivial⟩ rfl rfl rfl rfl)
theorem Qs0 {l : Qv} {n self : Int} (h1 : 1 ≤ n) (h2 : n ≤ 12) (h3 : 0 ≤ self) (h4 : self < n) : Qs5 l (Qbb l n self) none 0 :=
 ⟨[], by simp, fun x hx => absurd hx (by simp), h1, h2, h3, h4, Gen.bot, Gen.bot, Gen.bot, Int.le_refl _, Int.le_refl _, fun p hp => by cases hp⟩
theorem Qhc {l : Qv} {s : Nd} (h2 : 2 ≤ s.n) (s0 : 0 ≤ s.self) (s1 : s.self < 12) : Kq (Xq l s) (Q1 l s) = false := QjU (s := { s with wt := Qn l }) h2 s0 s1
theorem QoZ (l : Qv) (n self : Int) (cs : List Act) (hbad : ¬ QB l = 0 ∨ n < 1 ∨ 12 < n ∨ self < 0 ∨ n ≤ self) : FC Tryz.prog 8 [.agg (Q2 l), i64 n, i64 self, Qpc cs] (bl true) := by
 obtain ⟨lb, hlb⟩ := QlF l
 refine Qh [8] Tryz.func8 rfl rfl 195 Tryz.ntmps8 (Nat.le_of_ble_eq_true rfl) ?_
 intro E hN;refine Xo ?_;refine zP (Qd QgF rfl rfl rfl) ?_;refine Xo ?_;refine zP (Qd hlb rfl rfl rfl) ?_;refine QH ?_
 refine zq ?_ ?_ <;> intro h7
 ·refine QD ?_;refine zQ ?_
  rfl
 refine Xo ?_
 refine zq ?_ ?_ <;> intro h9
 ·refine QD ?_;refine zQ ?_
  rfl
 refine Xk ?_;refine zP (Qd (Qss l n self hbad) rfl rfl rfl) ?_;refine Xn ?_;refine zP (Qd (QoJ l n self hbad) rfl rfl rfl) ?_;refine QaZ ?_;refine JB ?_;refine zQ ?_
 rfl
theorem QqF (l : Qv) (n self : Int) (cs : List Act) (hc : QB l = 0) (h1 : 1 ≤ n) (h2 : n ≤ 12) (hs0 : 0 ≤ self) (hs1 : self < n) : FC Tryz.prog 8 [.agg (Q2 l), i64 n, i64 self, Qpc cs] (bl true) := by
 obtain ⟨lb, hlb⟩ := QlF l
 have hO := Xb hc
 refine Qh [8] Tryz.func8 rfl rfl 195 Tryz.ntmps8 (Nat.le_of_ble_eq_true rfl) ?_
 intro E hN;refine Xo ?_;refine zP (Qd QgF rfl rfl rfl) ?_;refine Xo ?_;refine zP (Qd hlb rfl rfl rfl) ?_;refine QH ?_
 refine zq ?_ ?_ <;> intro h7
 ·refine QD ?_;refine zQ ?_
  rfl
 refine Xo ?_
 refine zq ?_ ?_ <;> intro h9
 ·refine QD ?_;refine zQ ?_
  rfl
 have h40 : cs.length ≤ 40 := by
  have h : ¬ (cs.length : Int) > 40 := by simpa using h9
  omega
 refine Xk ?_;refine Qjk hN rfl (QjI l n self hc h1 h2 hs0 hs1) (.fn _ _ _ _ rfl rfl) rfl rfl rfl rfl rfl ?_;refine Xn ?_;refine zP (Qd (Qrf l n self hc h1 h2 hs0 hs1) rfl rfl rfl) ?_;refine QaZ ?_;refine QH ?_;refine Qm (fun x : {z : Nat × Nd × Option Pp // z.1 ≤ cs.length ∧ Qs5 l z.2.1 z.2.2 z.1} => ⟨plT cs x.1.1, Qg6 l x.1.2.1 x.1.2.2, 5⟩) (fun x => cs.length - x.1.1) (⟨(0, Qbb l n self, none), Nat.zero_le _, Qs0 h1 h2 hs0 hs1⟩) ?_ ?_
 ·exact Qa rfl (YO trivial) ⟨rfl, rfl, rfl, rfl, rfl, rfl, trivial⟩
 rintro ⟨⟨k, s, c⟩, hk, hI⟩;dsimp only at hk hI ⊢;refine Xo ?_
 refine zq ?_ ?_ <;> intro h27
 rotate_left
 ·skip
  refine QC ?_;refine zQ ?_
  rfl
 have hlt : k < cs.length := by simpa using h27
 obtain ⟨a, ha⟩ := Qq hlt;refine Xo ?_;refine zP (Qf rfl rfl rfl k rfl _ (Qi ha) rfl) ?_;refine QH ?_;refine zP (Qd (Qh7 a.v 40 (by decide) (by decide)) rfl rfl rfl) ?_;refine QH ?_
 refine zc 67 ?_ ?_ <;> intro h31
 ·refine YI ?_;refine zQ ?_
  rfl
 have hsv : Qcq a.v 40 = true := by simpa using h31
 refine QH ?_;refine uP (X0 (m1 (n0 h31))) (Qf rfl rfl rfl k rfl _ (Qi ha) rfl) ?_;refine QD ?_;refine uP (X0 (m1 (n0 h31))) (Qd (Qh7 a.m.v 40 (by decide) (by decide)) rfl rfl rfl) ?_;refine QD ?_
 refine zq ?_ ?_ <;> intro h36
 ·refine QD ?_;refine zQ ?_
  rfl
 have hsm : Qcq a.m.v 40 = true := by simpa using h36
 obtain ⟨X, hXl, hX, hv⟩ := id hI;have hkk : X.length ≤ 90 := by omega
 have n1 := hv.n1
 have n2 := hv.n2
 have s0 := hv.s0
 have s1 := hv.s1
 have nu0 := hv.num0
 have nu1 := hv.num1
 have nm1 : s.num ≤ 1000000 := by omega
 have ea := hv.acc.el hO hX hkk
 have el := hv.lrn.el hO hX hkk
 have ew := hv.wt.el hO hX hkk
 refine Xn ?_;refine JT (⟨plO cs k (XH l s c a).1.2 (XH l s c a).2, Qg6 l (XH l s c a).1.1.1 (XH l s c a).1.1.2, 5⟩) ?_ ?_
 ·refine QC ?_;refine zP (Qf rfl rfl rfl k rfl _ (Qi ha) rfl) ?_;refine Qy ?_
  rcases c with _ | p
  ·skip
   by_cases k0 : a.k = 0
   ·skip
    cases hv0 : XR l a.v
    ·skip
     refine JB ?_;refine zP (Ql (b := true) rfl rfl rfl (by simpa using k0)) ?_;refine Xo ?_;refine zP (Qf rfl rfl rfl k rfl _ (Qi ha) rfl) ?_;refine QH ?_;refine zP (Q0 [(Qe, 1)] (QiP l s Jv [] (XD.of rfl) a.v hv0) rfl rfl rfl rfl ⟨rfl, rfl, rfl, rfl, trivial⟩ rfl) ?_;refine X3 ?_;refine zP (Qf rfl rfl rfl k rfl _ (Qi ha) rfl) ?_;refine QH ?_;refine zP (Q0 [(Qe, 2)] (Qng l s false Qp.zero Qp.zero (.sl [] none) 0 [] (XD.of rfl) a.v hv0) rfl rfl rfl rfl ⟨rfl, rfl, rfl, rfl, trivial⟩ rfl) ?_;refine Qy ?_;refine Qb ?_
     have hst : XH l s none a = (((s, none), []), 4) := by
      unfold XH Qcm
      rw [if_pos k0, if_pos hv0]
     rw [hst];exact WM ⟨rfl, rfl, rfl, rfl, rfl, rfl, rfl, rfl, rfl, rfl, rfl, rfl, rfl, rfl, rfl, rfl, trivial⟩ rfl rfl
    have ev := Wf (Qfq hv0) hsv
    by_cases h2 : 2 ≤ s.n
    ·skip
     refine JB ?_;refine zP (Ql (b := true) rfl rfl rfl (by simpa using k0)) ?_;refine Xo ?_;refine zP (Qf rfl rfl rfl k rfl _ (Qi ha) rfl) ?_;refine QH ?_;refine QN hN [(Qe, 1)] (Qiv l s a.v hc h2 n2 s0 (show s.self < 12 by omega) nu0 nm1 (ea.up (by decide)) (ew.up (by decide)) hv0 (ev.up (by decide))) (.fn _ _ _ _ rfl rfl) rfl rfl rfl ⟨rfl, rfl, rfl, trivial⟩ rfl ⟨rfl, rfl, trivial⟩ rfl rfl rfl rfl rfl rfl rfl rfl ?_;refine X3 ?_;refine zP (Qf rfl rfl rfl k rfl _ (Qi ha) rfl) ?_;refine QH ?_
     refine QN hN [(Qe, 2)] (QtP l s a.v hc n1 n2 s0 s1 nu0 nm1 (ea.up (by decide)) (ew.up (by decide)) hv0 (ev.up (by decide)) (Qhc (s := ({ s with wt := Qk l s.wt a.v } : Nd)) h2 s0 (show s.self < 12 by omega))) (.fn _ _ _ _ rfl rfl) rfl rfl rfl ⟨rfl, rfl, rfl, trivial⟩ rfl ⟨rfl, Ke (Qc _), trivial⟩ rfl (Yr rfl (JU (Qc _) Ys)) rfl rfl rfl rfl rfl rfl ?_;refine Qy ?_;refine Qb ?_
     have hst : XH l s none a = ((((Xq l ({ s with wt := Qk l s.wt a.v } : Nd)), some (Q1 l ({ s with wt := Qk l s.wt a.v } : Nd))), JD (Xq l ({ s with wt := Qk l s.wt a.v } : Nd)) (Q1 l ({ s with wt := Qk l s.wt a.v } : Nd)) Xv), 0) := by
      unfold XH Qcm
      rw [if_pos k0, if_neg (by rw [hv0]; decide)];exact congrArg (fun z => (z, (0 : Int))) (Qhf (s := ({ s with wt := Qk l s.wt a.v } : Nd)) h2 s0 (show s.self < 12 by omega))
     rw [hst];exact QkO ⟨rfl, rfl, rfl, rfl, rfl, rfl, rfl, rfl, rfl, rfl, rfl, rfl, rfl, rfl, rfl, rfl, trivial⟩ rfl rfl rfl rfl
    have hq : Kq (Xq l ({ s with wt := Qk l s.wt a.v } : Nd)) (Q1 l ({ s with wt := Qk l s.wt a.v } : Nd)) = true := QtB (s := ({ s with wt := Qk l s.wt a.v } : Nd)) (show s.n = 1 by omega) s0 (show s.self < 12 by omega)
    refine JB ?_;refine zP (Ql (b := true) rfl rfl rfl (by simpa using k0)) ?_;refine Xo ?_;refine zP (Qf rfl rfl rfl k rfl _ (Qi ha) rfl) ?_;refine QH ?_;refine QN hN [(Qe, 1)] (QoD l s a.v hc n1 n2 s0 (show s.self < 12 by omega) nu0 nm1 (ea.up (by decide)) (ew.up (by decide)) (el.up (by decide)) hv0 (ev.up (by decide)) hq) (.fn _ _ _ _ rfl rfl) rfl rfl rfl ⟨rfl, rfl, rfl, trivial⟩ rfl ⟨rfl, trivial⟩ rfl rfl rfl rfl rfl rfl rfl rfl ?_;refine X3 ?_;refine zP (Qf rfl rfl rfl k rfl _ (Qi ha) rfl) ?_;refine QH ?_
    refine QN hN [(Qe, 2)] (Qsf l s a.v hc n1 n2 s0 s1 nu0 nm1 (ea.up (by decide)) (ew.up (by decide)) hv0 (ev.up (by decide)) (el.up (by decide)) hq) (.fn _ _ _ _ rfl rfl) rfl rfl rfl ⟨rfl, rfl, rfl, trivial⟩ rfl ⟨rfl, trivial⟩ rfl (Yr rfl Ys) rfl rfl rfl rfl rfl rfl ?_;refine Qy ?_;refine Qb ?_
    have hst : XH l s none a = ((((QT l (Xq l ({ s with wt := Qk l s.wt a.v } : Nd)) (Q1 l ({ s with wt := Qk l s.wt a.v } : Nd))), none), JD (Xq l ({ s with wt := Qk l s.wt a.v } : Nd)) (Q1 l ({ s with wt := Qk l s.wt a.v } : Nd)) Xv ++ W5 (QT l (Xq l ({ s with wt := Qk l s.wt a.v } : Nd)) (Q1 l ({ s with wt := Qk l s.wt a.v } : Nd)))), 0) := by
     unfold XH Qcm
     rw [if_pos k0, if_neg (by rw [hv0]; decide)];exact congrArg (fun z => (z, (0 : Int))) (Qrx hq)
    rw [hst];exact WM ⟨rfl, rfl, rfl, rfl, rfl, rfl, rfl, rfl, rfl, rfl, rfl, rfl, rfl, rfl, rfl, rfl, trivial⟩ rfl rfl
   skip
   by_cases k1 : a.k = 1
   ·skip
    by_cases hok : J5 l s a.m = 0
    ·skip
     by_cases m1 : a.m.k = 1
     ·have em : El l 40 a.m.v := Wf (Qcs hok (by omega)) hsm
      refine JB ?_;refine zP (Ql (b := false) rfl rfl rfl (by simpa using k0)) ?_;refine Qy ?_;refine zP (Ql (b := true) rfl rfl rfl (by simpa using k1)) ?_;refine Xo ?_;refine zP (Qf rfl rfl rfl k rfl _ (Qi ha) rfl) ?_;refine QH ?_;refine QN hN [(Qe, 1)] (Qid l s a.m hc m1 hok (ea.up (by decide)) (em.up (by decide))) (.fn _ _ _ _ rfl rfl) rfl rfl rfl ⟨rfl, rfl, rfl, trivial⟩ rfl ⟨rfl, trivial⟩ rfl rfl rfl rfl rfl rfl rfl rfl ?_;refine X3 ?_;refine zP (Qf rfl rfl rfl k rfl _ (Qi ha) rfl) ?_;refine QH ?_
      refine QN hN [(Qe, 2)] (Qt0 l s a.m hc m1 hok (ea.up (by decide)) (em.up (by decide))) (.fn _ _ _ _ rfl rfl) rfl rfl rfl ⟨rfl, rfl, rfl, trivial⟩ rfl ⟨rfl, trivial⟩ rfl (Yr rfl Ys) rfl rfl rfl rfl rfl rfl ?_;refine Qy ?_;refine Qb ?_
      have hst : XH l s none a = ((({ s with acc := Qk l s.acc a.m.v }, none), [QbV l s a.m]), 0) := by
       unfold XH W9
       rw [if_neg k0, if_pos k1, if_neg (fun h => h hok), if_pos m1]
      rw [hst];exact WM ⟨rfl, rfl, rfl, rfl, rfl, rfl, rfl, rfl, rfl, rfl, rfl, rfl, rfl, rfl, rfl, rfl, trivial⟩ rfl rfl
     skip
     by_cases m4 : a.m.k = 4
     ·have em : El l 40 a.m.v := Wf (Qcs hok (by omega)) hsm
      refine JB ?_;refine zP (Ql (b := false) rfl rfl rfl (by simpa using k0)) ?_;refine Qy ?_;refine zP (Ql (b := true) rfl rfl rfl (by simpa using k1)) ?_;refine Xo ?_;refine zP (Qf rfl rfl rfl k rfl _ (Qi ha) rfl) ?_;refine QH ?_;refine QN hN [(Qe, 1)] (Qo2 l s a.m hc m4 hok (el.up (by decide)) (em.up (by decide))) (.fn _ _ _ _ rfl rfl) rfl rfl rfl ⟨rfl, rfl, rfl, trivial⟩ rfl ⟨rfl, trivial⟩ rfl rfl rfl rfl rfl rfl rfl rfl ?_;refine X3 ?_;refine zP (Qf rfl rfl rfl k rfl _ (Qi ha) rfl) ?_;refine QH ?_
      refine QN hN [(Qe, 2)] (Qs2 l s a.m hc m4 hok (el.up (by decide)) (em.up (by decide))) (.fn _ _ _ _ rfl rfl) rfl rfl rfl ⟨rfl, rfl, rfl, trivial⟩ rfl ⟨rfl, trivial⟩ rfl (Yr rfl Ys) rfl rfl rfl rfl rfl rfl ?_;refine Qy ?_;refine Qb ?_
      have hst : XH l s none a = (((Xi l s a.m, none), []), 0) := by
       unfold XH W9
       rw [if_neg k0, if_pos k1, if_neg (fun h => h hok), if_neg m1];exact congrArg (fun z : Nd => (((z, (none : Option Pp)), ([] : List YB)), (0 : Int))) (if_pos m4)
      rw [hst];exact WM ⟨rfl, rfl, rfl, rfl, rfl, rfl, rfl, rfl, rfl, rfl, rfl, rfl, rfl, rfl, rfl, rfl, trivial⟩ rfl rfl
     have hr := Y9 hok
     have k23 : a.m.k = 2 ∨ a.m.k = 3 := by omega
     refine JB ?_;refine zP (Ql (b := false) rfl rfl rfl (by simpa using k0)) ?_;refine Qy ?_;refine zP (Ql (b := true) rfl rfl rfl (by simpa using k1)) ?_;refine Xo ?_;refine zP (Qf rfl rfl rfl k rfl _ (Qi ha) rfl) ?_;refine QH ?_;refine zP (Q0 [(Qe, 1)] (Qoy l s [] (XD.of rfl) a.m k23 hok) rfl rfl rfl rfl ⟨rfl, rfl, rfl, rfl, trivial⟩ rfl) ?_;refine X3 ?_;refine zP (Qf rfl rfl rfl k rfl _ (Qi ha) rfl) ?_;refine QH ?_
     refine zP (Q0 [(Qe, 2)] (QsU l s Qp.zero Qp.zero (.sl [] none) 0 [] (XD.of rfl) a.m k23 hok) rfl rfl rfl rfl ⟨rfl, rfl, rfl, rfl, trivial⟩ rfl) ?_;refine Qy ?_;refine Qb ?_
     have hst : XH l s none a = (((s, none), []), 0) := by
      unfold XH W9
      rw [if_neg k0, if_pos k1, if_neg (fun h => h hok), if_neg m1];exact congrArg (fun z : Nd => (((z, (none : Option Pp)), ([] : List YB)), (0 : Int))) (if_neg m4)
     rw [hst];exact WM ⟨rfl, rfl, rfl, rfl, rfl, rfl, rfl, rfl, rfl, rfl, rfl, rfl, rfl, rfl, rfl, rfl, trivial⟩ rfl rfl
    skip
    refine JB ?_;refine zP (Ql (b := false) rfl rfl rfl (by simpa using k0)) ?_;refine Qy ?_;refine zP (Ql (b := true) rfl rfl rfl (by simpa using k1)) ?_;refine Xo ?_;refine zP (Qf rfl rfl rfl k rfl _ (Qi ha) rfl) ?_;refine QH ?_;refine zP (Q0 [(Qe, 1)] (QkA l s Jv [] (XD.of rfl) a.m hok) rfl rfl rfl rfl ⟨rfl, rfl, rfl, rfl, trivial⟩ rfl) ?_;refine X3 ?_;refine zP (Qf rfl rfl rfl k rfl _ (Qi ha) rfl) ?_;refine QH ?_
    refine zP (Q0 [(Qe, 2)] (Qra l s false Qp.zero Qp.zero (.sl [] none) 0 [] (XD.of rfl) a.m hok) rfl rfl rfl rfl ⟨rfl, rfl, rfl, rfl, trivial⟩ rfl) ?_;refine Qy ?_;refine Qb ?_
    have hst : XH l s none a = (((s, none), []), J5 l s a.m) := by
     unfold XH W9
     rw [if_neg k0, if_pos k1, if_pos hok]
    rw [hst];exact WM ⟨rfl, rfl, rfl, rfl, rfl, rfl, rfl, rfl, rfl, rfl, rfl, rfl, rfl, rfl, rfl, rfl, trivial⟩ rfl rfl
   skip
   by_cases k2 : a.k = 2
   ·skip
    cases hw : WH s.lrn (Qn l)
    ·skip
     refine JB ?_;refine zP (Ql (b := false) rfl rfl rfl (by simpa using k0)) ?_;refine Qy ?_;refine zP (Ql (b := false) rfl rfl rfl (by simpa using k1)) ?_;refine Qy ?_;refine zP (Ql (b := true) rfl rfl rfl (by simpa using k2)) ?_;refine Qy ?_;refine zP (Q0 [(Qe, 1)] (Qqa l s hc n1 n2 (el.up (by decide)) hw) rfl rfl rfl rfl ⟨rfl, rfl, rfl, rfl, trivial⟩ rfl) ?_;refine zP (Q0 [(Qe, 2)] (Qsy l s hc n1 n2 hw) rfl rfl rfl rfl ⟨rfl, rfl, rfl, rfl, trivial⟩ rfl) ?_;refine QH ?_;refine Qb ?_
     have hst : XH l s none a = (((s, none), W5 s), 0) := by
      unfold XH
      rw [if_neg k0, if_neg k1, if_pos k2];exact congrArg (fun z : List YB => (((s, (none : Option Pp)), z), (0 : Int))) (if_neg (by rw [hw]; decide))
     rw [hst];exact WM ⟨rfl, rfl, rfl, rfl, rfl, rfl, rfl, rfl, rfl, rfl, rfl, rfl, rfl, rfl, rfl, rfl, trivial⟩ rfl rfl
    skip
    refine JB ?_;refine zP (Ql (b := false) rfl rfl rfl (by simpa using k0)) ?_;refine Qy ?_;refine zP (Ql (b := false) rfl rfl rfl (by simpa using k1)) ?_;refine Qy ?_;refine zP (Ql (b := true) rfl rfl rfl (by simpa using k2)) ?_;refine Qy ?_;refine zP (Q0 [(Qe, 1)] (QqS l s [] (XD.of rfl) hc hw) rfl rfl rfl rfl ⟨rfl, rfl, rfl, rfl, trivial⟩ rfl) ?_;refine zP (Q0 [(Qe, 2)] (Qtx l s Qp.zero Qp.zero (.sl [] none) 0 [] (XD.of rfl) hc hw) rfl rfl rfl rfl ⟨rfl, rfl, rfl, rfl, trivial⟩ rfl) ?_;refine QH ?_;refine Qb ?_
    have hst : XH l s none a = (((s, none), []), 0) := by
     unfold XH
     rw [if_neg k0, if_neg k1, if_pos k2];exact congrArg (fun z : List YB => (((s, (none : Option Pp)), z), (0 : Int))) (if_pos hw)
    rw [hst];exact WM ⟨rfl, rfl, rfl, rfl, rfl, rfl, rfl, rfl, rfl, rfl, rfl, rfl, rfl, rfl, rfl, rfl, trivial⟩ rfl rfl
   skip
   refine JB ?_;refine zP (Ql (b := false) rfl rfl rfl (by simpa using k0)) ?_;refine Qy ?_;refine zP (Ql (b := false) rfl rfl rfl (by simpa using k1)) ?_;refine Qy ?_;refine zP (Ql (b := false) rfl rfl rfl (by simpa using k2)) ?_;refine QD ?_;refine QO ?_
   have hst : XH l s none a = (((s, none), []), 0) := by
    unfold XH
    rw [if_neg k0, if_neg k1, if_neg k2]
   rw [hst];refine (Yd 14 rfl).trans ((Yd 15 rfl).trans ?_);exact WM ⟨rfl, rfl, rfl, rfl, rfl, rfl, rfl, rfl, rfl, rfl, rfl, rfl, rfl, rfl, rfl, rfl, trivial⟩ rfl rfl
  obtain ⟨pv, pg, pa, p2, r0, r1⟩ := hv.p p rfl
  have ep := pv.el hO hX hkk
  have eg := pg.el hO hX hkk
  by_cases k0 : a.k = 0
  ·skip
   cases hv0 : XR l a.v
   ·skip
    refine JB ?_;refine zP (Ql (b := true) rfl rfl rfl (by simpa using k0)) ?_;refine Xo ?_;refine zP (Qf rfl rfl rfl k rfl _ (Qi ha) rfl) ?_;refine QH ?_;refine zP (Q0 [(Qe, 1), (Qe + 1, 3)] (QiP l s (.ptr (Qe + 1) 0) [((Qe + 1), .var 137 (Jk p))] (XD.of rfl) a.v hv0) rfl rfl rfl rfl ⟨rfl, rfl, rfl, rfl, rfl, rfl, rfl, rfl, trivial⟩ rfl) ?_;refine X3 ?_;refine zP (Qf rfl rfl rfl k rfl _ (Qi ha) rfl) ?_;refine QH ?_
    refine zP (Q0 [(Qe, 2), (Qe + 1, 4)] (Qng l s true p.v p.g (.own (Qe + 1) s.n.toNat) p.ref [((Qe + 1), .arr 4 1 ((QL s.n.toNat p.ack).map Xw))] (W6 rfl rfl rfl rfl (Qc _)) a.v hv0) rfl rfl rfl rfl ⟨rfl, rfl, rfl, rfl, rfl, rfl, Xh (Qc _), Xh (Qc _), trivial⟩ rfl) ?_;refine Qy ?_;refine Qb ?_
    have hst : XH l s (some p) a = (((s, some p), []), 4) := by
     unfold XH Qcm
     rw [if_pos k0, if_pos hv0]
    rw [hst];exact K1 ⟨rfl, rfl, rfl, rfl, rfl, rfl, rfl, rfl, rfl, rfl, rfl, rfl, rfl, rfl, rfl, rfl, trivial⟩ rfl rfl rfl rfl
   have ev := Wf (Qfq hv0) hsv
   refine JB ?_;refine zP (Ql (b := true) rfl rfl rfl (by simpa using k0)) ?_;refine Xo ?_;refine zP (Qf rfl rfl rfl k rfl _ (Qi ha) rfl) ?_;refine QH ?_;refine QN hN [(Qe, 1), ((Qe + 1), 3)] (Qov l s p a.v hc (ew.up (by decide)) hv0 (ev.up (by decide))) (.fn _ _ _ _ rfl rfl) rfl rfl rfl ⟨rfl, rfl, rfl, rfl, rfl, rfl, trivial⟩ rfl ⟨rfl, rfl, trivial⟩ rfl rfl rfl rfl rfl rfl rfl rfl ?_;refine X3 ?_;refine zP (Qf rfl rfl rfl k rfl _ (Qi ha) rfl) ?_;refine QH ?_
   refine QN hN [(Qe, 2), ((Qe + 1), 4)] (Qtb l s p a.v hc (ew.up (by decide)) hv0 (ev.up (by decide))) (.fn _ _ _ _ rfl rfl) rfl rfl rfl ⟨rfl, rfl, rfl, Wc (Qc _) rfl, rfl, YJ (Qc _), trivial⟩ rfl ⟨rfl, Ke (Qc _), trivial⟩ rfl (Yr rfl (JU (Qc _) Ys)) rfl rfl rfl rfl rfl rfl ?_;refine Qy ?_;refine Qb ?_
   have hst : XH l s (some p) a = (((({ s with wt := Qk l s.wt a.v } : Nd), some p), []), 0) := by
    unfold XH Qcm
    rw [if_pos k0, if_neg (by rw [hv0]; decide)]
   rw [hst];exact K1 ⟨rfl, rfl, rfl, rfl, rfl, rfl, rfl, rfl, rfl, rfl, rfl, rfl, rfl, rfl, rfl, rfl, trivial⟩ rfl rfl rfl rfl
  skip
  by_cases k1 : a.k = 1
  ·skip
   by_cases hok : J5 l s a.m = 0
   ·have hr := Y9 hok
    by_cases m1 : a.m.k = 1
    ·have em : El l 40 a.m.v := Wf (Qcs hok (by omega)) hsm
     refine JB ?_;refine zP (Ql (b := false) rfl rfl rfl (by simpa using k0)) ?_;refine Qy ?_;refine zP (Ql (b := true) rfl rfl rfl (by simpa using k1)) ?_;refine Xo ?_;refine zP (Qf rfl rfl rfl k rfl _ (Qi ha) rfl) ?_;refine QH ?_;refine QN hN [(Qe, 1), ((Qe + 1), 3)] (Qo9 l s p a.m hc m1 hok (ea.up (by decide)) (em.up (by decide))) (.fn _ _ _ _ rfl rfl) rfl rfl rfl ⟨rfl, rfl, rfl, rfl, rfl, rfl, trivial⟩ rfl ⟨rfl, rfl, trivial⟩ rfl rfl rfl rfl rfl rfl rfl rfl ?_;refine X3 ?_;refine zP (Qf rfl rfl rfl k rfl _ (Qi ha) rfl) ?_;refine QH ?_
     refine QN hN [(Qe, 2), ((Qe + 1), 4)] (Qs1 l s p a.m hc m1 hok (ea.up (by decide)) (em.up (by decide))) (.fn _ _ _ _ rfl rfl) rfl rfl rfl ⟨rfl, rfl, rfl, Wc (Qc _) rfl, rfl, YJ (Qc _), trivial⟩ rfl ⟨rfl, Ke (Qc _), trivial⟩ rfl (Yr rfl (JU (Qc _) Ys)) rfl rfl rfl rfl rfl rfl ?_;refine Qy ?_;refine Qb ?_
     have hst : XH l s (some p) a = ((({ s with acc := Qk l s.acc a.m.v }, some p), [QbV l s a.m]), 0) := by
      unfold XH W9
      rw [if_neg k0, if_pos k1, if_neg (fun h => h hok), if_pos m1]
     rw [hst];exact K1 ⟨rfl, rfl, rfl, rfl, rfl, rfl, rfl, rfl, rfl, rfl, rfl, rfl, rfl, rfl, rfl, rfl, trivial⟩ rfl rfl rfl rfl
    skip
    by_cases m4 : a.m.k = 4
    ·skip
     cases hle2 : QJ l p.v (Xi l s a.m).lrn
     ·have em : El l 40 a.m.v := Wf (Qcs hok (by omega)) hsm
      refine JB ?_;refine zP (Ql (b := false) rfl rfl rfl (by simpa using k0)) ?_;refine Qy ?_;refine zP (Ql (b := true) rfl rfl rfl (by simpa using k1)) ?_;refine Xo ?_;refine zP (Qf rfl rfl rfl k rfl _ (Qi ha) rfl) ?_;refine QH ?_;refine QN hN [(Qe, 1), ((Qe + 1), 3)] (Qpk l s p a.m hc m4 hok (el.up (by decide)) (em.up (by decide)) ep.1 hle2) (.fn _ _ _ _ rfl rfl) rfl rfl rfl ⟨rfl, rfl, rfl, rfl, rfl, rfl, trivial⟩ rfl ⟨rfl, rfl, trivial⟩ rfl rfl rfl rfl rfl rfl rfl rfl ?_;refine X3 ?_;refine zP (Qf rfl rfl rfl k rfl _ (Qi ha) rfl) ?_;refine QH ?_
      refine QN hN [(Qe, 2), ((Qe + 1), 4)] (Qtr l s p a.m hc m4 hok (el.up (by decide)) (em.up (by decide)) (ep.up (by decide)) hle2) (.fn _ _ _ _ rfl rfl) rfl rfl rfl ⟨rfl, rfl, rfl, Wc (Qc _) rfl, rfl, YJ (Qc _), trivial⟩ rfl ⟨rfl, Ke (Qc _), trivial⟩ rfl (Yr rfl (JU (Qc _) Ys)) rfl rfl rfl rfl rfl rfl ?_;refine Qy ?_;refine Qb ?_
      have hst : XH l s (some p) a = ((((Xi l s a.m), some p), []), 0) := by
       unfold XH W9
       rw [if_neg k0, if_pos k1, if_neg (fun h => h hok), if_neg m1]
       show ((if a.m.k = 4 then (Qda l (Xi l s a.m) p, (0 : Int)) else _) : Nst × Int) = _
       rw [if_pos m4]
       unfold Qda
       rw [if_neg (by rw [hle2]; decide)]
      rw [hst];exact K1 ⟨rfl, rfl, rfl, rfl, rfl, rfl, rfl, rfl, rfl, rfl, rfl, rfl, rfl, rfl, rfl, rfl, trivial⟩ rfl rfl rfl rfl
     have em : El l 40 a.m.v := Wf (Qcs hok (by omega)) hsm
     cases hw : WH (Xi l s a.m).wt (Qn l)
     ·skip
      refine JB ?_;refine zP (Ql (b := false) rfl rfl rfl (by simpa using k0)) ?_;refine Qy ?_;refine zP (Ql (b := true) rfl rfl rfl (by simpa using k1)) ?_;refine Xo ?_;refine zP (Qf rfl rfl rfl k rfl _ (Qi ha) rfl) ?_;refine QH ?_
      refine QN hN [(Qe, 1), ((Qe + 1), 3)] (Qpi l s p a.m hc m4 hok (el.up (by decide)) (em.up (by decide)) ep.1 hle2 hw p2 n2 s0 (show s.self < 12 by omega) nu0 nm1 (ea.up (by decide)) (ew.up (by decide))) (.fn _ _ _ _ rfl rfl) rfl rfl rfl ⟨rfl, rfl, rfl, rfl, rfl, rfl, trivial⟩ rfl ⟨rfl, rfl, rfl, trivial⟩ rfl rfl rfl rfl rfl rfl rfl rfl ?_;refine X3 ?_;refine zP (Qf rfl rfl rfl k rfl _ (Qi ha) rfl) ?_;refine QH ?_
      refine QN hN [(Qe, 2), ((Qe + 1), 4)] (QtO l s p a.m hc m4 hok (el.up (by decide)) (em.up (by decide)) (ep.up (by decide)) hle2 hw n1 n2 s0 s1 nu0 nm1 (ea.up (by decide)) (ew.up (by decide)) (Qhc (s := (Xi l s a.m)) p2 s0 (show s.self < 12 by omega))) (.fn _ _ _ _ rfl rfl) rfl rfl rfl ⟨rfl, rfl, rfl, Wc (Qc _) rfl, rfl, YJ (Qc _), trivial⟩ rfl ⟨rfl, Ke (Qc _), Ke (Qc _), trivial⟩ rfl (Yr rfl (JU (Qc _) (JU (Qc _) Ys))) rfl rfl rfl rfl rfl rfl ?_;refine Qy ?_;refine Qb ?_
      have hst : XH l s (some p) a = ((((Xq l (Xi l s a.m)), some (Q1 l (Xi l s a.m))), JD (Xq l (Xi l s a.m)) (Q1 l (Xi l s a.m)) Xv), 0) := by
       unfold XH W9
       rw [if_neg k0, if_pos k1, if_neg (fun h => h hok), if_neg m1]
       show ((if a.m.k = 4 then (Qda l (Xi l s a.m) p, (0 : Int)) else _) : Nst × Int) = _
       rw [if_pos m4]
       unfold Qda
       rw [if_pos hle2, Qli hw, Qhf (s := (Xi l s a.m)) p2 s0 (show s.self < 12 by omega)]
      rw [hst];exact QkO ⟨rfl, rfl, rfl, rfl, rfl, rfl, rfl, rfl, rfl, rfl, rfl, rfl, rfl, rfl, rfl, rfl, trivial⟩ rfl rfl rfl rfl
     skip
     refine JB ?_;refine zP (Ql (b := false) rfl rfl rfl (by simpa using k0)) ?_;refine Qy ?_;refine zP (Ql (b := true) rfl rfl rfl (by simpa using k1)) ?_;refine Xo ?_;refine zP (Qf rfl rfl rfl k rfl _ (Qi ha) rfl) ?_;refine QH ?_;refine QN hN [(Qe, 1), ((Qe + 1), 3)] (QoM l s p a.m hc m4 hok (el.up (by decide)) (em.up (by decide)) ep.1 hle2 hw) (.fn _ _ _ _ rfl rfl) rfl rfl rfl ⟨rfl, rfl, rfl, rfl, rfl, rfl, trivial⟩ rfl ⟨rfl, rfl, trivial⟩ rfl rfl rfl rfl rfl rfl rfl rfl ?_;refine X3 ?_;refine zP (Qf rfl rfl rfl k rfl _ (Qi ha) rfl) ?_
     refine QH ?_;refine QN hN [(Qe, 2), ((Qe + 1), 4)] (Qtk l s p a.m hc m4 hok (el.up (by decide)) (em.up (by decide)) (ep.up (by decide)) hle2 hw) (.fn _ _ _ _ rfl rfl) rfl rfl rfl ⟨rfl, rfl, rfl, Wc (Qc _) rfl, rfl, YJ (Qc _), trivial⟩ rfl ⟨rfl, Ke (Qc _), trivial⟩ rfl (Yr rfl (JU (Qc _) Ys)) rfl rfl rfl rfl rfl rfl ?_;refine Qy ?_;refine Qb ?_
     have hst : XH l s (some p) a = ((((Xi l s a.m), none), []), 0) := by
      unfold XH W9
      rw [if_neg k0, if_pos k1, if_neg (fun h => h hok), if_neg m1]
      show ((if a.m.k = 4 then (Qda l (Xi l s a.m) p, (0 : Int)) else _) : Nst × Int) = _
      rw [if_pos m4]
      unfold Qda
      rw [if_pos hle2, Qk2 hw]
     rw [hst];exact WM ⟨rfl, rfl, rfl, rfl, rfl, rfl, rfl, rfl, rfl, rfl, rfl, rfl, rfl, rfl, rfl, rfl, trivial⟩ rfl rfl
    skip
    by_cases mn : a.m.n = s.num
    ·skip
     by_cases m2 : a.m.k = 2
     ·skip
      cases hq : Kq s ({ p with ack := Yp p.ack a.m.f.toNat true } : Pp)
      ·skip
       refine JB ?_;refine zP (Ql (b := false) rfl rfl rfl (by simpa using k0)) ?_;refine Qy ?_;refine zP (Ql (b := true) rfl rfl rfl (by simpa using k1)) ?_;refine Xo ?_;refine zP (Qf rfl rfl rfl k rfl _ (Qi ha) rfl) ?_;refine QH ?_;refine QN hN [(Qe, 1), ((Qe + 1), 3)] (Qrh l s p a.m m2 hok n1 n2 mn hq) (.fn _ _ _ _ rfl rfl) rfl rfl rfl ⟨rfl, rfl, rfl, rfl, rfl, rfl, trivial⟩ rfl ⟨rfl, rfl, trivial⟩ rfl rfl rfl rfl rfl rfl rfl rfl ?_;refine X3 ?_;refine zP (Qf rfl rfl rfl k rfl _ (Qi ha) rfl) ?_;refine QH ?_
       refine QN hN [(Qe, 2), ((Qe + 1), 4)] (QuN l s p a.m m2 hok mn pa n1 n2 hq) (.fn _ _ _ _ rfl rfl) rfl rfl rfl ⟨rfl, rfl, rfl, Wc (Qc _) rfl, rfl, YJ (Qc _), trivial⟩ rfl ⟨rfl, Ke (Qc _), trivial⟩ rfl (Yr rfl (JU (Qc _) Ys)) rfl rfl rfl rfl rfl rfl ?_;refine Qy ?_;refine Qb ?_
       have hst : XH l s (some p) a = (((s, some ({ p with ack := Yp p.ack a.m.f.toNat true } : Pp)), []), 0) := by
        unfold XH W9
        rw [if_neg k0, if_pos k1, if_neg (fun h => h hok), if_neg m1]
        show ((if a.m.k = 4 then (Qda l (Xi l s a.m) p, (0 : Int)) else (if ¬ a.m.n = s.num then (((s, some p), []), (0 : Int)) else if a.m.k = 2 then (Qew l s ({ p with ack := Yp p.ack a.m.f.toNat true } : Pp), (0 : Int)) else (((s, some { p with g := Qk l p.g a.m.v }), []), (0 : Int)))) : Nst × Int) = _
        rw [if_neg m4];rw [if_neg (fun h => h mn), if_pos m2]
        unfold Qew
        rw [if_neg (by rw [hq]; decide)]
       rw [hst];exact K1 ⟨rfl, rfl, rfl, rfl, rfl, rfl, rfl, rfl, rfl, rfl, rfl, rfl, rfl, rfl, rfl, rfl, trivial⟩ rfl rfl rfl rfl
      skip
      cases hw : WH s.wt (Qn l)
      ·skip
       refine JB ?_;refine zP (Ql (b := false) rfl rfl rfl (by simpa using k0)) ?_;refine Qy ?_;refine zP (Ql (b := true) rfl rfl rfl (by simpa using k1)) ?_;refine Xo ?_;refine zP (Qf rfl rfl rfl k rfl _ (Qi ha) rfl) ?_;refine QH ?_
       refine QN hN [(Qe, 1), ((Qe + 1), 3)] (Qrs l s p a.m hc m2 hok p2 n2 s0 (show s.self < 12 by omega) nu0 nm1 (ea.up (by decide)) (ew.up (by decide)) mn (el.up (by decide)) (ep.up (by decide)) hq hw) (.fn _ _ _ _ rfl rfl) rfl rfl rfl ⟨rfl, rfl, rfl, rfl, rfl, rfl, trivial⟩ rfl ⟨rfl, rfl, rfl, trivial⟩ rfl rfl rfl rfl rfl rfl rfl rfl ?_;refine X3 ?_;refine zP (Qf rfl rfl rfl k rfl _ (Qi ha) rfl) ?_;refine QH ?_
       refine QN hN [(Qe, 2), ((Qe + 1), 4)] (QuS l s p a.m hc m2 hok mn pa n1 n2 s0 s1 nu0 nm1 (ea.up (by decide)) (ew.up (by decide)) (el.up (by decide)) (ep.up (by decide)) hq hw (Qhc (s := (QT l s p)) p2 s0 (show s.self < 12 by omega))) (.fn _ _ _ _ rfl rfl) rfl rfl rfl ⟨rfl, rfl, rfl, Wc (Qc _) rfl, rfl, YJ (Qc _), trivial⟩ rfl ⟨rfl, Ke (Qc _), Ke (Qc _), trivial⟩ rfl (Yr rfl (JU (Qc _) (JU (Qc _) Ys))) rfl rfl rfl rfl rfl rfl ?_;refine Qy ?_;refine Qb ?_
       have hst : XH l s (some p) a = ((((Xq l (QT l s p)), some (Q1 l (QT l s p))), W5 (QT l s p) ++ JD (Xq l (QT l s p)) (Q1 l (QT l s p)) Xv), 0) := by
        unfold XH W9
        rw [if_neg k0, if_pos k1, if_neg (fun h => h hok), if_neg m1]
        show ((if a.m.k = 4 then (Qda l (Xi l s a.m) p, (0 : Int)) else (if ¬ a.m.n = s.num then (((s, some p), []), (0 : Int)) else if a.m.k = 2 then (Qew l s ({ p with ack := Yp p.ack a.m.f.toNat true } : Pp), (0 : Int)) else (((s, some { p with g := Qk l p.g a.m.v }), []), (0 : Int)))) : Nst × Int) = _
        rw [if_neg m4];rw [if_neg (fun h => h mn), if_pos m2]
        unfold Qew
        rw [if_pos hq, Qli (s := QT l s ({ p with ack := Yp p.ack a.m.f.toNat true } : Pp)) hw, Qhf (s := QT l s ({ p with ack := Yp p.ack a.m.f.toNat true } : Pp)) p2 s0 (show s.self < 12 by omega)]
        rfl
       rw [hst];exact QpP ⟨rfl, rfl, rfl, rfl, rfl, rfl, rfl, rfl, rfl, rfl, rfl, rfl, rfl, rfl, rfl, rfl, trivial⟩ rfl rfl rfl rfl
      skip
      refine JB ?_;refine zP (Ql (b := false) rfl rfl rfl (by simpa using k0)) ?_;refine Qy ?_;refine zP (Ql (b := true) rfl rfl rfl (by simpa using k1)) ?_;refine Xo ?_;refine zP (Qf rfl rfl rfl k rfl _ (Qi ha) rfl) ?_;refine QH ?_;refine QN hN [(Qe, 1), ((Qe + 1), 3)] (Qlg l s p a.m hc m2 hok n1 n2 mn (el.up (by decide)) (ep.up (by decide)) hq hw) (.fn _ _ _ _ rfl rfl) rfl rfl rfl ⟨rfl, rfl, rfl, rfl, rfl, rfl, trivial⟩ rfl ⟨rfl, rfl, trivial⟩ rfl rfl rfl rfl rfl rfl rfl rfl ?_;refine X3 ?_;refine zP (Qf rfl rfl rfl k rfl _ (Qi ha) rfl) ?_
      refine QH ?_;refine QN hN [(Qe, 2), ((Qe + 1), 4)] (Qvx l s p a.m hc m2 hok mn pa n1 n2 (el.up (by decide)) (ep.up (by decide)) hq hw) (.fn _ _ _ _ rfl rfl) rfl rfl rfl ⟨rfl, rfl, rfl, Wc (Qc _) rfl, rfl, YJ (Qc _), trivial⟩ rfl ⟨rfl, Ke (Qc _), trivial⟩ rfl (Yr rfl (JU (Qc _) Ys)) rfl rfl rfl rfl rfl rfl ?_;refine Qy ?_;refine Qb ?_
      have hst : XH l s (some p) a = ((((QT l s p), none), W5 (QT l s p)), 0) := by
       unfold XH W9
       rw [if_neg k0, if_pos k1, if_neg (fun h => h hok), if_neg m1]
       show ((if a.m.k = 4 then (Qda l (Xi l s a.m) p, (0 : Int)) else (if ¬ a.m.n = s.num then (((s, some p), []), (0 : Int)) else if a.m.k = 2 then (Qew l s ({ p with ack := Yp p.ack a.m.f.toNat true } : Pp), (0 : Int)) else (((s, some { p with g := Qk l p.g a.m.v }), []), (0 : Int)))) : Nst × Int) = _
       rw [if_neg m4];rw [if_neg (fun h => h mn), if_pos m2]
       unfold Qew
       rw [if_pos hq, Qk2 (s := QT l s ({ p with ack := Yp p.ack a.m.f.toNat true } : Pp)) hw];exact congrArg (fun z : List YB => (((QT l s p, (none : Option Pp)), z), (0 : Int))) (List.append_nil _)
      rw [hst];exact WM ⟨rfl, rfl, rfl, rfl, rfl, rfl, rfl, rfl, rfl, rfl, rfl, rfl, rfl, rfl, rfl, rfl, trivial⟩ rfl rfl
     have m3 : a.m.k = 3 := by omega
     have em : El l 40 a.m.v := Wf (Qcs hok (by omega)) hsm
     refine JB ?_;refine zP (Ql (b := false) rfl rfl rfl (by simpa using k0)) ?_;refine Qy ?_;refine zP (Ql (b := true) rfl rfl rfl (by simpa using k1)) ?_;refine Xo ?_;refine zP (Qf rfl rfl rfl k rfl _ (Qi ha) rfl) ?_;refine QH ?_;refine QN hN [(Qe, 1), ((Qe + 1), 3)] (QqU l s p a.m hc m3 hok mn (eg.up (by decide)) (em.up (by decide))) (.fn _ _ _ _ rfl rfl) rfl rfl rfl ⟨rfl, rfl, rfl, rfl, rfl, rfl, trivial⟩ rfl ⟨rfl, rfl, trivial⟩ rfl rfl rfl rfl rfl rfl rfl rfl ?_;refine X3 ?_;refine zP (Qf rfl rfl rfl k rfl _ (Qi ha) rfl) ?_;refine QH ?_
     refine QN hN [(Qe, 2), ((Qe + 1), 4)] (Qux l s p a.m hc m3 hok mn (eg.up (by decide)) (em.up (by decide))) (.fn _ _ _ _ rfl rfl) rfl rfl rfl ⟨rfl, rfl, rfl, Wc (Qc _) rfl, rfl, YJ (Qc _), trivial⟩ rfl ⟨rfl, Ke (Qc _), trivial⟩ rfl (Yr rfl (JU (Qc _) Ys)) rfl rfl rfl rfl rfl rfl ?_;refine Qy ?_;refine Qb ?_
     have hst : XH l s (some p) a = (((s, some { p with g := Qk l p.g a.m.v }), []), 0) := by
      unfold XH W9
      rw [if_neg k0, if_pos k1, if_neg (fun h => h hok), if_neg m1]
      show ((if a.m.k = 4 then (Qda l (Xi l s a.m) p, (0 : Int)) else (if ¬ a.m.n = s.num then (((s, some p), []), (0 : Int)) else if a.m.k = 2 then (Qew l s ({ p with ack := Yp p.ack a.m.f.toNat true } : Pp), (0 : Int)) else (((s, some { p with g := Qk l p.g a.m.v }), []), (0 : Int)))) : Nst × Int) = _
      rw [if_neg m4];rw [if_neg (fun h => h mn), if_neg m2]
     rw [hst];exact K1 ⟨rfl, rfl, rfl, rfl, rfl, rfl, rfl, rfl, rfl, rfl, rfl, rfl, rfl, rfl, rfl, rfl, trivial⟩ rfl rfl rfl rfl
    have k23 : a.m.k = 2 ∨ a.m.k = 3 := by omega
    refine JB ?_;refine zP (Ql (b := false) rfl rfl rfl (by simpa using k0)) ?_;refine Qy ?_;refine zP (Ql (b := true) rfl rfl rfl (by simpa using k1)) ?_;refine Xo ?_;refine zP (Qf rfl rfl rfl k rfl _ (Qi ha) rfl) ?_;refine QH ?_;refine zP (Q0 [(Qe, 1), (Qe + 1, 3)] (Qo5 l s p a.m k23 hok mn) rfl rfl rfl rfl ⟨rfl, rfl, rfl, rfl, rfl, rfl, rfl, rfl, trivial⟩ rfl) ?_;refine X3 ?_;refine zP (Qf rfl rfl rfl k rfl _ (Qi ha) rfl) ?_;refine QH ?_
    refine zP (Q0 [(Qe, 2), (Qe + 1, 4)] (Qsu l s p a.m k23 hok mn) rfl rfl rfl rfl ⟨rfl, rfl, rfl, rfl, rfl, rfl, Xh (Qc _), Xh (Qc _), trivial⟩ rfl) ?_;refine Qy ?_;refine Qb ?_
    have hst : XH l s (some p) a = (((s, some p), []), 0) := by
     unfold XH W9
     rw [if_neg k0, if_pos k1, if_neg (fun h => h hok), if_neg m1]
     show ((if a.m.k = 4 then (Qda l (Xi l s a.m) p, (0 : Int)) else (if ¬ a.m.n = s.num then (((s, some p), []), (0 : Int)) else if a.m.k = 2 then (Qew l s ({ p with ack := Yp p.ack a.m.f.toNat true } : Pp), (0 : Int)) else (((s, some { p with g := Qk l p.g a.m.v }), []), (0 : Int)))) : Nst × Int) = _
     rw [if_neg m4];rw [if_pos mn]
    rw [hst];exact K1 ⟨rfl, rfl, rfl, rfl, rfl, rfl, rfl, rfl, rfl, rfl, rfl, rfl, rfl, rfl, rfl, rfl, trivial⟩ rfl rfl rfl rfl
   skip
   refine JB ?_;refine zP (Ql (b := false) rfl rfl rfl (by simpa using k0)) ?_;refine Qy ?_;refine zP (Ql (b := true) rfl rfl rfl (by simpa using k1)) ?_;refine Xo ?_;refine zP (Qf rfl rfl rfl k rfl _ (Qi ha) rfl) ?_;refine QH ?_;refine zP (Q0 [(Qe, 1), (Qe + 1, 3)] (QkA l s (.ptr (Qe + 1) 0) [((Qe + 1), .var 137 (Jk p))] (XD.of rfl) a.m hok) rfl rfl rfl rfl ⟨rfl, rfl, rfl, rfl, rfl, rfl, rfl, rfl, trivial⟩ rfl) ?_;refine X3 ?_;refine zP (Qf rfl rfl rfl k rfl _ (Qi ha) rfl) ?_;refine QH ?_
   refine zP (Q0 [(Qe, 2), (Qe + 1, 4)] (Qra l s true p.v p.g (.own (Qe + 1) s.n.toNat) p.ref [((Qe + 1), .arr 4 1 ((QL s.n.toNat p.ack).map Xw))] (W6 rfl rfl rfl rfl (Qc _)) a.m hok) rfl rfl rfl rfl ⟨rfl, rfl, rfl, rfl, rfl, rfl, Xh (Qc _), Xh (Qc _), trivial⟩ rfl) ?_;refine Qy ?_;refine Qb ?_
   have hst : XH l s (some p) a = (((s, some p), []), J5 l s a.m) := by
    unfold XH W9
    rw [if_neg k0, if_pos k1, if_pos hok]
   rw [hst];exact K1 ⟨rfl, rfl, rfl, rfl, rfl, rfl, rfl, rfl, rfl, rfl, rfl, rfl, rfl, rfl, rfl, rfl, trivial⟩ rfl rfl rfl rfl
  skip
  by_cases k2 : a.k = 2
  ·skip
   cases hle : QJ l p.g p.v
   ·skip
    refine JB ?_;refine zP (Ql (b := false) rfl rfl rfl (by simpa using k0)) ?_;refine Qy ?_;refine zP (Ql (b := false) rfl rfl rfl (by simpa using k1)) ?_;refine Qy ?_;refine zP (Ql (b := true) rfl rfl rfl (by simpa using k2)) ?_;refine Qy ?_;refine QN hN [(Qe, 1), ((Qe + 1), 3)] (Qp6 l s p hc n1 n2 s0 (show s.self < 12 by omega) nu0 nm1 r0 (by omega) (ep.up (by decide)) (eg.up (by decide)) (ea.up (by decide)) hle) (.fn _ _ _ _ rfl rfl) rfl rfl rfl ⟨rfl, rfl, rfl, rfl, rfl, rfl, trivial⟩ rfl ⟨rfl, rfl, trivial⟩ rfl rfl rfl rfl rfl rfl rfl rfl ?_
    refine QN hN [(Qe, 2), ((Qe + 1), 4)] (Qtm l s p hc n1 n2 s0 s1 nu0 nm1 r0 (by omega) (ep.up (by decide)) (eg.up (by decide)) (ea.up (by decide)) hle) (.fn _ _ _ _ rfl rfl) rfl rfl rfl ⟨rfl, rfl, rfl, Wc (Qc _) rfl, rfl, YJ (Qc _), trivial⟩ rfl ⟨rfl, Ke (Qc _), Ke (Qc _), trivial⟩ rfl (Yr rfl (JU (Qc _) (JU (Qc _) Ys))) rfl rfl rfl rfl rfl rfl ?_;refine QH ?_;refine Qb ?_
    have hst : XH l s (some p) a = (((Qc2 s (QcS l s p), some (Qbw l s (QcS l s p))), JD (Qc2 s (QcS l s p)) (Qbw l s (QcS l s p)) Xv), 0) := by
     unfold XH
     rw [if_neg k0, if_neg k1, if_pos k2]
     unfold Qil
     dsimp only;rw [if_neg (by rw [hle]; decide)]
    rw [hst];exact QsC ⟨rfl, rfl, rfl, rfl, rfl, rfl, rfl, rfl, rfl, rfl, rfl, rfl, rfl, rfl, rfl, rfl, trivial⟩ rfl rfl rfl rfl
   skip
   refine JB ?_;refine zP (Ql (b := false) rfl rfl rfl (by simpa using k0)) ?_;refine Qy ?_;refine zP (Ql (b := false) rfl rfl rfl (by simpa using k1)) ?_;refine Qy ?_;refine zP (Ql (b := true) rfl rfl rfl (by simpa using k2)) ?_;refine Qy ?_;refine zP (Q0 [(Qe, 1), (Qe + 1, 3)] (QkF l s p hc n1 n2 (ep.up (by decide)) eg.1 hle) rfl rfl rfl rfl ⟨rfl, rfl, rfl, rfl, rfl, rfl, rfl, rfl, trivial⟩ rfl) ?_
   refine zP (Q0 [(Qe, 2), (Qe + 1, 4)] (QsR l s p hc n1 n2 (ep.up (by decide)) (eg.up (by decide)) hle) rfl rfl rfl rfl ⟨rfl, rfl, rfl, rfl, rfl, rfl, Xh (Qc _), Xh (Qc _), trivial⟩ rfl) ?_;refine QH ?_;refine Qb ?_
   have hst : XH l s (some p) a = (((s, some p), JD s p (fun i => !p.ack i)), 0) := by
    unfold XH
    rw [if_neg k0, if_neg k1, if_pos k2]
    unfold Qil
    dsimp only;rw [if_pos hle]
   rw [hst];exact K1 ⟨rfl, rfl, rfl, rfl, rfl, rfl, rfl, rfl, rfl, rfl, rfl, rfl, rfl, rfl, rfl, rfl, trivial⟩ rfl rfl rfl rfl
  skip
  refine JB ?_;refine zP (Ql (b := false) rfl rfl rfl (by simpa using k0)) ?_;refine Qy ?_;refine zP (Ql (b := false) rfl rfl rfl (by simpa using k1)) ?_;refine Qy ?_;refine zP (Ql (b := false) rfl rfl rfl (by simpa using k2)) ?_;refine QD ?_;refine QO ?_
  have hst : XH l s (some p) a = (((s, (some p)), []), 0) := by
   unfold XH
   rw [if_neg k0, if_neg k1, if_neg k2]
  rw [hst];refine (Yd 14 rfl).trans ((Yd 15 rfl).trans ?_);exact K1 ⟨rfl, rfl, rfl, rfl, rfl, rfl, rfl, rfl, rfl, rfl, rfl, rfl, rfl, rfl, rfl, rfl, trivial⟩ rfl rfl rfl rfl
 have hI' := QrC hO hI hsv hsm
 obtain ⟨⟨⟨⟨s', c'⟩, out⟩, e⟩, hq⟩ : ∃ q, q = XH l s c a := ⟨_, rfl⟩
 rw [← hq] at hI' ⊢;dsimp only at hI' ⊢;obtain ⟨X', hXl', hX', hv'⟩ := id hI';have hkk' : X'.length ≤ 90 := by omega
 have ea' := hv'.acc.el hO hX' hkk'
 have el' := hv'.lrn.el hO hX' hkk'
 have ew' := hv'.wt.el hO hX' hkk'
 refine JB ?_
 rcases c' with _ | p'
 ·skip
  refine QH ?_;refine zP (Q0 [(Qe, 1)] (Qk3 l s' [] (XD.of rfl)) rfl rfl rfl rfl ⟨rfl, rfl, rfl, rfl, trivial⟩ rfl) ?_;refine QrA ?_;refine zD 33 ?_;refine QH ?_;refine zp (Ql (b := false) rfl rfl rfl (by simp)) ?_;refine QD ?_;refine zp (Qd (QgL out) rfl rfl rfl) ?_;refine Xk ?_;refine zp (Qd (fcb (c := true) (Jr Qp.zero Qp.zero) ((Jl _ _).2 rfl)) rfl rfl rfl) ?_;refine Qy ?_;refine zp (Ql (b := false) rfl rfl rfl (by simp)) ?_;refine X3 ?_
  refine zp (Q0 [(Qe, 1)] (Qnr l s' [] (XD.of rfl)) rfl rfl rfl rfl ⟨rfl, rfl, rfl, rfl, trivial⟩ rfl) ?_;refine QH ?_;refine zp (Ql (b := false) rfl rfl rfl (by simp)) ?_;refine Qy ?_;refine zD 21 ?_;refine zm ?_;refine zp (Q0 [(Qe, 1)] (Qcr l s' Jv [] (XD.of rfl) hc (ea'.up (by decide))) rfl rfl rfl rfl ⟨rfl, rfl, rfl, rfl, trivial⟩ rfl) ?_;refine QH ?_;refine zp (Qd (fcb (c := true) (Jr s'.acc s'.acc) ((Jl _ _).2 rfl)) rfl rfl rfl) ?_;refine QD ?_
  refine zp (Q0 [(Qe, 1)] (QcN l s' Jv [] (XD.of rfl) hc (el'.up (by decide))) rfl rfl rfl rfl ⟨rfl, rfl, rfl, rfl, trivial⟩ rfl) ?_;refine QH ?_;refine zp (Qd (fcb (c := true) (Jr s'.lrn s'.lrn) ((Jl _ _).2 rfl)) rfl rfl rfl) ?_;refine QC ?_;refine zp (Q0 [(Qe, 1)] (QcZ l s' Jv [] (XD.of rfl) hc (ew'.up (by decide))) rfl rfl rfl rfl ⟨rfl, rfl, rfl, rfl, trivial⟩ rfl) ?_;refine QH ?_;refine zp (Qd (fcb (c := true) (Jr s'.wt s'.wt) ((Jl _ _).2 rfl)) rfl rfl rfl) ?_;refine X3 ?_;refine Qb ?_
  exact ⟨⟨(k + 1, s', _), hlt, hI'⟩, (by first | exact Qa rfl (JZ ⟨X5, rfl, trivial⟩) ⟨rfl, rfl, rfl, rfl, rfl, rfl, trivial⟩ | exact Qa rfl (JZ ⟨X5, rfl, trivial⟩) ⟨rfl, rfl, rfl, rfl, rfl, rfl, rfl, rfl, rfl, rfl, rfl, Yj (Qc _), trivial⟩), by dsimp only; omega⟩
 obtain ⟨pv', -⟩ := hv'.p p' rfl
 have ep' := pv'.el hO hX' hkk'
 refine QH ?_;refine zP (Q0 [(Qe, 1), (Qe + 1, 3)] (Qrz l s' p' hc (ep'.up (by decide))) rfl rfl rfl rfl ⟨rfl, rfl, rfl, rfl, rfl, rfl, rfl, rfl, trivial⟩ rfl) ?_;refine QaZ ?_;refine QD ?_;refine zD 33 ?_;refine QH ?_;refine zp (Ql (b := false) rfl rfl rfl (by simp)) ?_;refine QD ?_;refine zp (Qd (QgL out) rfl rfl rfl) ?_;refine Xk ?_;refine zp (Qd (fcb (c := true) (Jr p'.v p'.v) ((Jl _ _).2 rfl)) rfl rfl rfl) ?_;refine Qy ?_;refine zp (Ql (b := false) rfl rfl rfl (by simp)) ?_;refine X3 ?_
 refine zp (Q0 [(Qe, 1), (Qe + 1, 3)] (QsP l s' p') rfl rfl rfl rfl ⟨rfl, rfl, rfl, rfl, rfl, rfl, rfl, rfl, trivial⟩ rfl) ?_;refine QH ?_;refine zp (Ql (b := false) rfl rfl rfl (by simp)) ?_;refine Qy ?_;refine zD 21 ?_;refine zm ?_;refine zp (Q0 [(Qe, 1), (Qe + 1, 3)] (Qcr l s' (.ptr (Qe + 1) 0) [(Qe + 1, .var 137 (Jk p'))] (XD.of rfl) hc (ea'.up (by decide))) rfl rfl rfl rfl ⟨rfl, rfl, rfl, rfl, rfl, rfl, rfl, rfl, trivial⟩ rfl) ?_;refine QH ?_
 refine zp (Qd (fcb (c := true) (Jr s'.acc s'.acc) ((Jl _ _).2 rfl)) rfl rfl rfl) ?_;refine QD ?_;refine zp (Q0 [(Qe, 1), (Qe + 1, 3)] (QcN l s' (.ptr (Qe + 1) 0) [(Qe + 1, .var 137 (Jk p'))] (XD.of rfl) hc (el'.up (by decide))) rfl rfl rfl rfl ⟨rfl, rfl, rfl, rfl, rfl, rfl, rfl, rfl, trivial⟩ rfl) ?_;refine QH ?_;refine zp (Qd (fcb (c := true) (Jr s'.lrn s'.lrn) ((Jl _ _).2 rfl)) rfl rfl rfl) ?_;refine QC ?_
 refine zp (Q0 [(Qe, 1), (Qe + 1, 3)] (QcZ l s' (.ptr (Qe + 1) 0) [(Qe + 1, .var 137 (Jk p'))] (XD.of rfl) hc (ew'.up (by decide))) rfl rfl rfl rfl ⟨rfl, rfl, rfl, rfl, rfl, rfl, rfl, rfl, trivial⟩ rfl) ?_;refine QH ?_;refine zp (Qd (fcb (c := true) (Jr s'.wt s'.wt) ((Jl _ _).2 rfl)) rfl rfl rfl) ?_;refine X3 ?_;refine Qb ?_
 exact ⟨⟨(k + 1, s', _), hlt, hI'⟩, (by first | exact Qa rfl (JZ ⟨X5, rfl, trivial⟩) ⟨rfl, rfl, rfl, rfl, rfl, rfl, trivial⟩ | exact Qa rfl (JZ ⟨X5, rfl, trivial⟩) ⟨rfl, rfl, rfl, rfl, rfl, rfl, rfl, rfl, rfl, rfl, rfl, Yj (Qc _), trivial⟩), by dsimp only; omega⟩
theorem QkH (l : Qv) (n self : Int) (cs : List Act) : FC Tryz.prog 8 [.agg (Q2 l), i64 n, i64 self, Qpc cs] (bl true) := by
 by_cases h : ¬ QB l = 0 ∨ n < 1 ∨ 12 < n ∨ self < 0 ∨ n ≤ self
 ·exact QoZ l n self cs h
 exact QqF l n self cs (by by_cases hc : QB l = 0; exact hc; exact absurd (.inl hc) h) (by omega) (by omega) (by omega) (by omega)
end Go.Proofs.YtnkkokmmeplbgaaGreat
