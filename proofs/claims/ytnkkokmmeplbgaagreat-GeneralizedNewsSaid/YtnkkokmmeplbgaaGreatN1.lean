/-
  Plain: a node of generalized lattice agreement.
-/
import Derived.Test.YtnkkokmmeplbgaaGreatS1
import Derived.Test.YtnkkokmmeplbgaaGreatC1
import Derived.Test.YtnkkokmmeplbgaaGreatA12
import Derived.Test.YtnkkokmmeplbgaaGreatB14
import Derived.Test.YtnkkokmmeplbgaaGreatA3
import Derived.Test.YtnkkokmmeplbgaaGreatA11
namespace Go.Proofs.YtnkkokmmeplbgaaGreat
set_option maxRecDepth 100000
set_option maxHeartbeats 1000000
open Go.RowKit
def El (l : Qs) (N : Nat) (v : Qt) : Prop := Qv v l = true ∧ Wc N v
theorem El.up {l : Qs} {N M : Nat} {v : Qt} (h : El l N v) (hm : N ≤ M) : El l M v := ⟨h.1, h.2.up hm⟩
theorem El.bot {l : Qs} (hO : Ys l) : El l 64 (Qm l) := ⟨Qae l hO, QjG l hO⟩
theorem El.join {l : Qs} (hO : Ys l) {N M : Nat} (h64 : 64 ≤ N + M) {a b : Qt} (ha : El l N a) (hb : El l M b) : El l (N + M) (QD l a b) := ⟨(Qdr l hO a b ha.1 hb.1).el, Qio h64 l hO a b ha.1 hb.1 ha.2 hb.2⟩
theorem QfG {l : Qs} (hO : Ys l) {N : Nat} : ∀ (vs : List Qt) (s : Qt) (M : Nat), 64 ≤ M → El l M s → (∀ v ∈ vs, El l N v) → El l (M + N * vs.length) (vs.foldl (QD l) s)
 | [], s, M, _, hs, _ => hs
 | x :: vs, s, M, hM, hs, h => by
  have h1 := hs.join hO (M := N) (by omega) (h x (List.mem_cons_self ..))
  have h2 := QfG hO vs (QD l s x) (M + N) (by omega) h1 (fun v hv => h v (List.mem_cons_of_mem _ hv))
  refine h2.up ?_
  rw [List.length_cons, Nat.mul_add]
  omega
theorem QjC {l : Qs} (hO : Ys l) {vs : List Qt} (h : ∀ v ∈ vs, El l 100000 v) (hl : vs.length ≤ 4) : QjJ l vs := by
 refine ⟨JoL.of l hO, fun v hv => (h v hv).2.up (by omega), fun k hk => ?_⟩
 have h1 := QfG hO (vs.take k) (Qm l) 64 (Nat.le_refl _) (El.bot hO) (fun v hv => h v (List.mem_of_mem_take hv))
 have h2 : (vs.take k).length ≤ 4 := by rw [List.length_take]; omega
 exact h1.up (by omega)
theorem Qkx {l : Qs} (hO : Ys l) {a : Qt} (ha : Qv a l = true) : KL l [a] = a := by
 show QD l (Qm l) a = a
 exact QdD hO ha
structure Nd where
 n : Int
 self : Int
 acc : Qt
 lrn : Qt
 wt : Qt
 num : Int
structure Pp where
 v : Qt
 g : Qt
 ack : Nat → Bool
 ref : Int
def Qgf (n : Int) : Int := n - (n - 1) / 2
def Qn7 (ack : Nat → Bool) : Nat := (List.range 12).countP ack
def YJ (self : Int) (m : Bal) (to : Nat → Bool) (i : Nat) : List Bal := ((List.range i).filter fun i : Nat => !((i : Int) == self) && to i).map fun i : Nat => (⟨m.k, self, (i : Int), m.n, m.v⟩ : Bal)
theorem YP {self : Int} {m : Bal} {to : Nat → Bool} {i : Nat} (h1 : ¬ (i : Int) = self) (h2 : to i = true) : YJ self m to (i + 1) = YJ self m to i ++ [⟨m.k, self, (i : Int), m.n, m.v⟩] := by
 unfold YJ
 rw [List.range_succ, List.filter_append, List.map_append]
 simp [h1, h2]
theorem Jh {self : Int} {m : Bal} {to : Nat → Bool} {i : Nat} (h : (i : Int) = self ∨ to i = false) : YJ self m to (i + 1) = YJ self m to i := by
 unfold YJ
 rw [List.range_succ, List.filter_append, List.map_append]
 rcases h with h | h <;> simp [h]
theorem Qa3 (self : Int) (m : Bal) (to : Nat → Bool) (i : Nat) : (YJ self m to i).length ≤ i := by
 unfold YJ
 rw [List.length_map]
 have := List.length_filter_le (fun i : Nat => !((i : Int) == self) && to i) (List.range i)
 rwa [List.length_range] at this
def upN (r : Nat → Bool) (j : Nat) (b : Bool) : Nat → Bool := fun i => if i = j then b else r i
def QbG : Nat → Bool := fun _ => true
def Qdz (s : Nd) (p : Pp) (to : Nat → Bool) : List Bal := YJ s.self ⟨1, 0, 0, s.num, p.v⟩ to s.n.toNat
def Qke (s : Nd) : List Bal := YJ s.self ⟨4, 0, 0, 0, s.lrn⟩ QbG s.n.toNat
theorem QiF (s : Nd) (p : Pp) (to : Nat → Bool) : (Qdz s p to).length ≤ s.n.toNat := Qa3 ..
theorem QjB (s : Nd) : (Qke s).length ≤ s.n.toNat := Qa3 ..
def Qn3 (s : Nd) (p : Pp) : Nd := { s with acc := p.v, num := s.num + 1 }
def Qnt (l : Qs) (s : Nd) (p : Pp) : Pp := { p with g := Qm l, ack := upN (fun _ => false) s.self.toNat true }
def Qkm (l : Qs) (s : Nd) : Pp := ⟨QD l s.acc s.wt, Qt.zero, fun _ => false, 0⟩
def Qf8 (l : Qs) (s : Nd) : Nd := Qn3 { s with wt := Qm l } (Qkm l s)
def Qf6 (l : Qs) (s : Nd) : Pp := Qnt l s (Qkm l s)
def WF (l : Qs) (s : Nd) (p : Pp) : Nd := { s with lrn := if Q0 l s.lrn p.v then p.v else s.lrn }
def QiL (s : Nd) (p : Pp) : Bool := decide (Qgf s.n ≤ (Qn7 p.ack : Int))
theorem Qh3 {j : Nat} (h : j < 12) : j = 0 ∨ j = 1 ∨ j = 2 ∨ j = 3 ∨ j = 4 ∨ j = 5 ∨ j = 6 ∨ j = 7 ∨ j = 8 ∨ j = 9 ∨ j = 10 ∨ j = 11 := by omega
theorem QlI {α : Type} {g : α → List AV} (hg : ∀ i, fzs (g i) = some (g i)) (l : List α) : ∀ e ∈ l.map g, fzs e = some e := fun e he => by
 obtain ⟨i, -, rfl⟩ := List.mem_map.1 he
 exact hg i
theorem Qkb {α : Type} {k : Nat} {g : α → List AV} (hg : ∀ i, WP k (g i) = true) (l : List α) : (l.map g).all (WP k) = true := by
 rw [List.all_map, List.all_eq_true]
 exact fun i _ => hg i
abbrev X6 (l : Qs) (s : Nd) (x : AV) : List AV := [i64 l.k, i64 l.lo, i64 l.hi, XN l.nm, Qf0 l.ps, rus l.rs, i64 s.n, i64 s.self, i64 s.acc.N, XN s.acc.nm, J8 s.acc.ps, KU s.acc.es, i64 s.lrn.N, XN s.lrn.nm, J8 s.lrn.ps, KU s.lrn.es, i64 s.wt.N, XN s.wt.nm, J8 s.wt.ps, KU s.wt.es, i64 s.num, x]
abbrev Kn (p : Pp) : List AV := [i64 p.v.N, XN p.v.nm, J8 p.v.ps, KU p.v.es, i64 p.g.N, XN p.g.nm, J8 p.g.ps, KU p.g.es, bl (p.ack 0), bl (p.ack 1), bl (p.ack 2), bl (p.ack 3), bl (p.ack 4), bl (p.ack 5), bl (p.ack 6), bl (p.ack 7), bl (p.ack 8), bl (p.ack 9), bl (p.ack 10), bl (p.ack 11), i64 p.ref]
abbrev Jz : AV := .p (.pointer none)
theorem Ql6 {p : Pp} {j : Nat} (h : j < 12) : (Kn p).drop (8 + j * 1) = bl (p.ack j) :: (Kn p).drop (9 + j * 1) := by
 rcases Qh3 h with rfl | rfl | rfl | rfl | rfl | rfl | rfl | rfl | rfl | rfl | rfl | rfl <;> rfl
theorem QkS {p : Pp} {j : Nat} (h : j < 12) : Kd (Kn p) (8 + j * 1) [bl true] = Kn { p with ack := upN p.ack j true } := by
 rcases Qh3 h with rfl | rfl | rfl | rfl | rfl | rfl | rfl | rfl | rfl | rfl | rfl | rfl <;> rfl
theorem QoC {T : TypeId} {p : Pp} {j : Nat} (h : j < 12) {st : St} {q : Nat} (hq : Qd st.H q = some (.var T (Kn p))) : st.at_ (.ptr q (8 + j * 1)) = some (bl (p.ack j) :: (Kn p).drop (9 + j * 1)) := by
 simp only [St.at_, hq]
 rw [← Ql6 h]
theorem Qnk {p : Pp} {j : Nat} (h : j < 12) {y : AV} : 8 + j * 1 + [y].length ≤ (Kn p).length := by show 8 + j * 1 + 1 ≤ 21; omega
theorem Qmv (a : Qt) : X2 4 1 [i64 a.N, XN a.nm, J8 a.ps, KU a.es] = [a].map YR := by
 show [QH a] = _
 simp [WB]
theorem Qm2 (l : Qs) (hc : QK l = 0) : FC Tryz.prog 107 [.agg (QP l)] (.tup [.agg (QH (Qm l)), i64 0]) := by
 have h := QeI l
 rw [J2, if_pos hc] at h
 exact h
theorem QmA (l : Qs) (hc : QK l = 0) {vs : List Qt} (hv : ∀ v ∈ vs, El l 100000 v) (hl : vs.length ≤ 4) : FC Tryz.prog 127 [.agg (QP l), J8 vs] (.tup [.agg (QH (KL l vs)), i64 0]) := by
 have h := QhO l vs (fun _ => QjC (Xg hc) hv hl)
 rwa [Qgn (QiV hc (List.all_eq_true.2 fun v hv' => (hv v hv').1)) rfl] at h
theorem Qe5 (l : Qs) {a b : Qt} (hc : QK l = 0) (ha : Qv a l = true) (hb : Qv b l = true) : FC Tryz.prog 84 [.agg (QP l), .agg (QH a), .agg (QH b)] (bl (Q0 l a b)) := by
 have h := Ql0 l a b
 rwa [Wn hc ha hb] at h
theorem Wk {L : Nat} {te : TypeId} (l : List Bal) : X5 L (.arr te 8 (l.map fun b => K0 b)) = true := X0 (fun _ => rfl) l
theorem Yd (l : List Bal) : ∀ e ∈ l.map (fun b => K0 b), fzs e = some e := QlI (fun _ => rfl) l
theorem QcI (l : List Bal) : (l.map fun b => K0 b).all (WP 8) = true := Qkb (fun _ => rfl) l
theorem Qey (l : Qs) (v : Qt) (hc : QK l = 0) : FC Tryz.prog 93 [.agg (QP l), .agg (QH v)] (bl (eqV v (Qm l))) := by
 refine Qe [4] Tryz.func93 rfl rfl 14 Tryz.ntmps93 (Nat.le_of_ble_eq_true rfl) ?_
 intro E hN
 refine Xj ?_; refine Qg 9 (by kernel_rfl) (by kernel_rfl) ?_; refine zl ?_
 refine zp (Qb (by have h := K9 l; rw [hc] at h; exact h) rfl rfl rfl) ?_
 refine Qz ?_; refine zp (Qb (Qas l (Xg hc)) rfl rfl rfl) ?_; refine zp (Qb (QbN _ _) rfl rfl rfl) ?_; refine Yb ?_
 change Ql _ _ _ _ _ _; refine zS ?_; refine zQ ?_
 rfl
theorem KF (l : Qs) (s : Nd) (x : AV) (R : List (Nat × Qi)) (hH : JJ ((Qk, .var 131 (X6 l s x)) :: R)) (hc : QK l = 0) : GC Tryz.prog 78 [.ptr Qk 0] ((Qk, .var 131 (X6 l s x)) :: R) (.agg (QH (Qm l))) ((Qk, .var 131 (X6 l s x)) :: R) := by
 refine Yo [.c 2 30 4 true] ⟨⟨inferInstance, rfl⟩, trivial⟩ Tryz.func78 rfl rfl 14 Tryz.ntmps78 (Nat.le_of_ble_eq_true rfl) ?_
 intro E hN
 refine Xj ?_; refine zP (QE rfl rfl rfl) ?_; refine QC ?_; refine zP (Qb (Qm2 l hc) rfl rfl rfl) ?_; refine Jn ?_; refine Qj ?_
 change (resY _ _).bind AV.fzt = some _ ∧ _
 refine Qa4 hH (by repeat (first | exact hH.p0 | refine hH.pre rfl ?_)) rfl ?_
 rfl
theorem Qgy (l : Qs) (s : Nd) (x : AV) (R : List (Nat × Qi)) (hH : JJ ((Qk, .var 131 (X6 l s x)) :: R)) (hc : QK l = 0) {vs : List Qt} (hv : ∀ v ∈ vs, El l 100000 v) (hl : vs.length ≤ 4) : GC Tryz.prog 79 [.ptr Qk 0, J8 vs] ((Qk, .var 131 (X6 l s x)) :: R) (.agg (QH (KL l vs))) ((Qk, .var 131 (X6 l s x)) :: R) := by
 refine Yo [.c 4 30 4 true] ⟨⟨inferInstance, rfl⟩, trivial⟩ Tryz.func79 rfl rfl 17 Tryz.ntmps79 (Nat.le_of_ble_eq_true rfl) ?_
 intro E hN
 refine Xj ?_; refine zP (QE rfl rfl rfl) ?_; refine Qx ?_; refine zP (Qb (QmA l hc hv hl) rfl rfl rfl) ?_; refine Jn ?_
 refine Qj ?_
 change (resY _ _).bind AV.fzt = some _ ∧ _
 refine Qa4 hH (by repeat (first | exact hH.p0 | refine hH.pre rfl ?_)) rfl ?_
 rfl
theorem QbL (l : Qs) (s : Nd) (x : AV) (R : List (Nat × Qi)) (hH : JJ ((Qk, .var 131 (X6 l s x)) :: R)) (hc : QK l = 0) {a b : Qt} (ha : El l 100000 a) (hb : El l 100000 b) : GC Tryz.prog 79 [.ptr Qk 0, J8 [a, b]] ((Qk, .var 131 (X6 l s x)) :: R) (.agg (QH (QD l a b))) ((Qk, .var 131 (X6 l s x)) :: R) := by
 have h := Qgy l s x R hH hc (vs := [a, b]) (by intro v hv; simp at hv; rcases hv with rfl | rfl <;> assumption) (by simp)
 rwa [QjA (Xg hc) ha.1] at h
theorem Kz (l : Qs) (s : Nd) (x : AV) (R : List (Nat × Qi)) (hH : JJ ((Qk, .var 131 (X6 l s x)) :: R)) (hc : QK l = 0) {v : Qt} (hv : El l 100000 v) : GC Tryz.prog 85 [.ptr Qk 0, .agg (QH v)] ((Qk, .var 131 (X6 l s x)) :: R) (.agg (QH v)) ((Qk, .var 131 (X6 l s x)) :: R) := by
 refine Yo [.c 4 30 4 true] ⟨⟨inferInstance, rfl⟩, trivial⟩ Tryz.func85 rfl rfl 9 Tryz.ntmps85 (Nat.le_of_ble_eq_true rfl) ?_
 intro E hN
 refine Jy ?_; refine zP (Kq rfl rfl rfl rfl (by exact rfl) (by decide) (by decide) (Qmv v)) ?_
 refine zP (JP hH (show GC _ _ [.ptr Qk 0, J8 [v]] _ (.agg (QH v)) _ from (by have h := Qgy l s x R hH hc (vs := [v]) (by simpa using hv) (by simp); rwa [Qkx (Xg hc) hv.1] at h)) rfl rfl rfl (by repeat (first | exact hH.p0 | refine hH.pre rfl ?_))) ?_
 refine QC ?_; refine Qj ?_
 change (resY _ _).bind AV.fzt = some _ ∧ _
 refine Qa4 hH (by repeat (first | exact hH.p0 | refine hH.pre rfl ?_)) rfl ?_
 rfl
theorem Qbt (l : Qs) (s : Nd) (x : AV) (R : List (Nat × Qi)) (hH : JJ ((Qk, .var 131 (X6 l s x)) :: R)) (hc : QK l = 0) (hv : El l 100000 s.acc) : GC Tryz.prog 49 [.ptr Qk 0] ((Qk, .var 131 (X6 l s x)) :: R) (.agg (QH s.acc)) ((Qk, .var 131 (X6 l s x)) :: R) := by
 refine Yo [.c 2 30 4 true] ⟨⟨inferInstance, rfl⟩, trivial⟩ Tryz.func49 rfl rfl 9 Tryz.ntmps49 (Nat.le_of_ble_eq_true rfl) ?_
 intro E hN
 refine Jf ?_; refine zP (QE rfl rfl rfl) ?_; refine QC ?_
 refine zP (JP hH (Kz l s x R hH hc hv) rfl rfl rfl (by repeat (first | exact hH.p0 | refine hH.pre rfl ?_))) ?_; refine QC ?_
 refine Qj ?_
 change (resY _ _).bind AV.fzt = some _ ∧ _
 refine Qa4 hH (by repeat (first | exact hH.p0 | refine hH.pre rfl ?_)) rfl ?_
 rfl
theorem Qb9 (l : Qs) (s : Nd) (x : AV) (R : List (Nat × Qi)) (hH : JJ ((Qk, .var 131 (X6 l s x)) :: R)) (hc : QK l = 0) (hv : El l 100000 s.lrn) : GC Tryz.prog 50 [.ptr Qk 0] ((Qk, .var 131 (X6 l s x)) :: R) (.agg (QH s.lrn)) ((Qk, .var 131 (X6 l s x)) :: R) := by
 refine Yo [.c 2 30 4 true] ⟨⟨inferInstance, rfl⟩, trivial⟩ Tryz.func50 rfl rfl 9 Tryz.ntmps50 (Nat.le_of_ble_eq_true rfl) ?_
 intro E hN
 refine Jf ?_; refine zP (QE rfl rfl rfl) ?_; refine QC ?_
 refine zP (JP hH (Kz l s x R hH hc hv) rfl rfl rfl (by repeat (first | exact hH.p0 | refine hH.pre rfl ?_))) ?_; refine QC ?_
 refine Qj ?_
 change (resY _ _).bind AV.fzt = some _ ∧ _
 refine Qa4 hH (by repeat (first | exact hH.p0 | refine hH.pre rfl ?_)) rfl ?_
 rfl
theorem Qcd (l : Qs) (s : Nd) (x : AV) (R : List (Nat × Qi)) (hH : JJ ((Qk, .var 131 (X6 l s x)) :: R)) (hc : QK l = 0) (hv : El l 100000 s.wt) : GC Tryz.prog 51 [.ptr Qk 0] ((Qk, .var 131 (X6 l s x)) :: R) (.agg (QH s.wt)) ((Qk, .var 131 (X6 l s x)) :: R) := by
 refine Yo [.c 2 30 4 true] ⟨⟨inferInstance, rfl⟩, trivial⟩ Tryz.func51 rfl rfl 9 Tryz.ntmps51 (Nat.le_of_ble_eq_true rfl) ?_
 intro E hN
 refine Jf ?_; refine zP (QE rfl rfl rfl) ?_; refine QC ?_
 refine zP (JP hH (Kz l s x R hH hc hv) rfl rfl rfl (by repeat (first | exact hH.p0 | refine hH.pre rfl ?_))) ?_; refine QC ?_
 refine Qj ?_
 change (resY _ _).bind AV.fzt = some _ ∧ _
 refine Qa4 hH (by repeat (first | exact hH.p0 | refine hH.pre rfl ?_)) rfl ?_
 rfl
theorem QgD {H : List (Nat × Qi)} (hH : JJ H) (i : Int) : GC Tryz.prog 98 [i64 i] H (bl true) H := by
 refine JK [2] Tryz.func98 rfl rfl 3 Tryz.ntmps98 (Nat.le_of_ble_eq_true rfl) ?_
 intro E hN
 refine Jf ?_; refine Qj ?_
 change (XP _ _).fzt = some _ ∧ _
 refine Qck hH (by repeat (first | exact hH.p0 | refine hH.pre rfl ?_)) rfl ?_
 rfl
theorem Qiz (l : Qs) (s : Nd) (x0 : AV) (R : List (Nat × Qi)) (hH : JJ ((Qk, .var 131 (X6 l s x0)) :: R)) (hc : QK l = 0) (h1 : 1 ≤ s.n) (h2 : s.n ≤ 12) (m : Bal) (hk : ¬ m.k = 2) (hm : El l 100000 m.v) (to : Nat → Bool) (g : FuncId) (caps : List AV) [QZ Tryz.prog g] (hF : ∀ i : Nat, i < 12 → GC Tryz.prog g (i64 i :: caps) ((Qk, .var 131 (X6 l s x0)) :: R) (bl (to i)) ((Qk, .var 131 (X6 l s x0)) :: R)) (hcap : caps.all QaA = true) (hcap2 : okId 2 (.fn g caps) = true) : GX Tryz.prog 134 [.ptr Qk 0, .agg (K0 m), .fn g caps] ((Qk, .var 131 (X6 l s x0)) :: R) (.own 1 (YJ s.self m to s.n.toNat).length) ((1, (.arr 54 8 ((YJ s.self m to s.n.toNat).map fun b => K0 b))) :: ((Qk, .var 131 (X6 l s x0)) :: R)) 2 := by
 refine JH [6] Tryz.func134 rfl rfl 50 Tryz.ntmps134 (Nat.le_of_ble_eq_true rfl) ?_
 intro E hN
 refine Wz ?_; refine zP (QE rfl rfl rfl) ?_; refine QA ?_; refine QF (W6 rfl 7 54 8 rfl) ?_
 refine Qo (fun x : {i : Nat // i ≤ s.n.toNat} => ⟨[(0, .ptr Qk 0), (2, .fn g caps), (4, .ptr 0 0), (7, .own 1 (YJ s.self m to x.1).length), (13, i64 s.n), (14, i64 (x.1 : Nat))], (0, .var 54 (K0 m)) :: (1, (.arr 54 8 ((YJ s.self m to x.1).map fun b => K0 b))) :: ((Qk, .var 131 (X6 l s x0)) :: R), 2⟩) (fun x => s.n.toNat - x.1) (⟨0, Nat.zero_le _⟩) ?_ ?_
 ·
  exact QO (pre := [(0, _), (1, _)]) hH rfl rfl ⟨rfl, rfl, rfl, hcap2, rfl, rfl, rfl, rfl, rfl, rfl, rfl, rfl, trivial⟩ ⟨rfl, rfl, rfl, rfl, rfl, (Wk _), trivial⟩ (by repeat (first | exact hH.p0 | refine hH.pre rfl ?_))
 rintro ⟨i, hi⟩
 dsimp only
 refine QA ?_
 refine zq ?_ ?_ <;> intro h13
 rotate_left
 ·
  have hge : ¬ (i : Int) < s.n := by simpa using h13
  obtain rfl : i = s.n.toNat := by omega
  refine Xk ?_; refine Qj ?_
  change (XP _ _).ntt = _ ∧ _
  refine QhK hH (by repeat (first | exact hH.p0 | refine hH.pre rfl ?_)) rfl ?_ rfl rfl rfl rfl ?_ rfl (Wk _)
  ·rfl
  rfl
 have hlt : (i : Int) < s.n := by simpa using h13
 have hi12 : i < 12 := by omega
 refine Jn ?_; refine zP (QE rfl rfl rfl) ?_; refine Qz ?_
 refine zc 23 ?_ ?_ <;> intro h16
 rotate_left
 ·
  have he : (i : Int) = s.self := by simpa using h16
  refine XM ?_; refine Qc ?_
  exact ⟨⟨i + 1, by omega⟩, QO (pre := [(0, _), (1, _)]) hH rfl rfl ⟨rfl, rfl, rfl, hcap2, rfl, rfl, (by first | (rw [YP hne ht, List.length_append]; rfl) | (rw [Jh (.inl he)]; rfl) | (rw [Jh (.inr ht)]; rfl)), rfl, rfl, rfl, (Xe (by dsimp only; omega)), rfl, trivial⟩ ⟨rfl, rfl, rfl, (by first | (rw [YP hne ht, List.map_append]; rfl) | (rw [Jh (.inl he)]; rfl) | (rw [Jh (.inr ht)]; rfl)), rfl, (Wk _), trivial⟩ (by repeat (first | exact hH.p0 | refine hH.pre rfl ?_)), by dsimp only; omega⟩
 have hne : ¬ (i : Int) = s.self := by simpa using h16
 refine QC ?_
 refine uP (Xo h16) (Qju hH (hF i hi12) rfl rfl rfl rfl (by rw [List.all_cons, hcap]; rfl) (by repeat (first | exact hH.p0 | refine hH.pre rfl ?_))) ?_
 refine QC ?_
 refine zq ?_ ?_ <;> intro h17
 rotate_left
 ·
  have ht : to i = false := h17
  refine Qz ?_; refine Qc ?_
  exact ⟨⟨i + 1, by omega⟩, QO (pre := [(0, _), (1, _)]) hH rfl rfl ⟨rfl, rfl, rfl, hcap2, rfl, rfl, (by first | (rw [YP hne ht, List.length_append]; rfl) | (rw [Jh (.inl he)]; rfl) | (rw [Jh (.inr ht)]; rfl)), rfl, rfl, rfl, (Xe (by dsimp only; omega)), rfl, trivial⟩ ⟨rfl, rfl, rfl, (by first | (rw [YP hne ht, List.map_append]; rfl) | (rw [Jh (.inl he)]; rfl) | (rw [Jh (.inr ht)]; rfl)), rfl, (Wk _), trivial⟩ (by repeat (first | exact hH.p0 | refine hH.pre rfl ?_)), by dsimp only; omega⟩
 have ht : to i = true := h17
 refine Jy ?_; refine zP (QE rfl rfl rfl) ?_; refine Wz ?_; refine zP (Q6 (b := true) rfl rfl rfl (by simpa using hk)) ?_; refine Xk ?_
 refine zP (JP hH (Kz l s x0 R hH hc hm) rfl rfl rfl (by repeat (first | exact hH.p0 | refine hH.pre rfl ?_))) ?_; refine Xk ?_
 refine zP (QJ rfl rfl rfl rfl (by exact rfl) (by decide) (by decide)) ?_
 refine X1 hN rfl rfl rfl (by rw [List.length_map]) rfl rfl rfl (by rw [List.length_map]; have := Qa3 s.self m to i; refine ⟨?_, ?_⟩ <;> simp [X2] <;> omega) rfl rfl rfl rfl ?_
 refine QA ?_; refine Qc ?_
 exact ⟨⟨i + 1, by omega⟩, QO (pre := [(0, _), (1, _)]) hH rfl rfl ⟨rfl, rfl, rfl, hcap2, rfl, rfl, (by first | (rw [YP hne ht, List.length_append]; rfl) | (rw [Jh (.inl he)]; rfl) | (rw [Jh (.inr ht)]; rfl)), rfl, rfl, rfl, (Xe (by dsimp only; omega)), rfl, trivial⟩ ⟨rfl, rfl, rfl, (by first | (rw [YP hne ht, List.map_append]; rfl) | (rw [Jh (.inl he)]; rfl) | (rw [Jh (.inr ht)]; rfl)), rfl, (Wk _), trivial⟩ (by repeat (first | exact hH.p0 | refine hH.pre rfl ?_)), by dsimp only; omega⟩
end Go.Proofs.YtnkkokmmeplbgaaGreat
