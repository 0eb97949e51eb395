/-
  Plain: a node of generalized lattice agreement.
-/
import Derived.Test.YtnkkokmmeplbgaaGreatS1
import Derived.Test.YtnkkokmmeplbgaaGreatB23
import Derived.Test.YtnkkokmmeplbgaaGreatA12
import Derived.Test.YtnkkokmmeplbgaaGreatB14
import Derived.Test.YtnkkokmmeplbgaaGreatA3
import Derived.Test.YtnkkokmmeplbgaaGreatA11
namespace Go.Proofs.YtnkkokmmeplbgaaGreat
set_option maxRecDepth 100000
set_option maxHeartbeats 1000000
open Go.RowKit
def El (l : Qv) (N : Nat) (v : Qp) : Prop := Qw v l = true ∧ SmV N v
theorem El.up {l : Qv} {N M : Nat} {v : Qp} (h : El l N v) (hm : N ≤ M) : El l M v := ⟨h.1, h.2.up hm⟩
theorem El.bot {l : Qv} (hO : YM l) : El l 64 (Qn l) := ⟨Qbe l hO, QpS l hO⟩
theorem El.join {l : Qv} (hO : YM l) {N M : Nat} (h64 : 64 ≤ N + M) {a b : Qp} (ha : El l N a) (hb : El l M b) : El l (N + M) (Qk l a b) := ⟨(QbP l hO a b ha.1 hb.1).el, QnL h64 l hO a b ha.1 hb.1 ha.2 hb.2⟩
theorem Qgt {l : Qv} (hO : YM l) {N : Nat} : ∀ (vs : List Qp) (s : Qp) (M : Nat), 64 ≤ M → El l M s → (∀ v ∈ vs, El l N v) → El l (M + N * vs.length) (vs.foldl (Qk l) s)
 | [], s, M, _, hs, _ => hs
 | x :: vs, s, M, hM, hs, h => by
  have h1 := hs.join hO (M := N) (by omega) (h x (List.mem_cons_self ..))
  have h2 := Qgt hO vs (Qk l s x) (M + N) (by omega) h1 (fun v hv => h v (List.mem_cons_of_mem _ hv))
  refine h2.up ?_;rw [List.length_cons, Nat.mul_add]
  omega
theorem QpL {l : Qv} (hO : YM l) {vs : List Qp} (h : ∀ v ∈ vs, El l 100000 v) (hl : vs.length ≤ 4) : QpV l vs := by
 refine ⟨JoL.of l hO, fun v hv => (h v hv).2.up (by omega), fun k hk => ?_⟩
 have h1 := Qgt hO (vs.take k) (Qn l) 64 (Nat.le_refl _) (El.bot hO) (fun v hv => h v (List.mem_of_mem_take hv))
 have h2 : (vs.take k).length ≤ 4 := by rw [List.length_take]; omega
 exact h1.up (by omega)
theorem Qk5 {l : Qv} (hO : YM l) {a : Qp} (ha : Qw a l = true) : YL l [a] = a := by
 show Qk l (Qn l) a = a
 exact Qfc hO ha
theorem Qm2 {l : Qv} (hO : YM l) {a b c : Qp} (ha : Qw a l = true) : YL l [a, b, c] = Qk l (Qk l a b) c := by
 show Qk l (Qk l (Qk l (Qn l) a) b) c = _
 rw [Qfc hO ha]
structure Nd where
 n : Int
 self : Int
 acc : Qp
 lrn : Qp
 wt : Qp
 num : Int
structure Pp where
 v : Qp
 g : Qp
 ack : Nat → Bool
 ref : Int
def QdI (n : Int) : Int := n - (n - 1) / 2
def QtD (ack : Nat → Bool) : Nat := (List.range 12).countP ack
def JS (self : Int) (m : YB) (to : Nat → Bool) (i : Nat) : List YB := ((List.range i).filter fun i : Nat => !((i : Int) == self) && to i).map fun i : Nat => (⟨m.k, self, (i : Int), m.n, m.v⟩ : YB)
theorem Jt {self : Int} {m : YB} {to : Nat → Bool} {i : Nat} (h1 : ¬ (i : Int) = self) (h2 : to i = true) : JS self m to (i + 1) = JS self m to i ++ [⟨m.k, self, (i : Int), m.n, m.v⟩] := by
 unfold JS
 rw [List.range_succ, List.filter_append, List.map_append]
 simp [h1, h2]
theorem Xp {self : Int} {m : YB} {to : Nat → Bool} {i : Nat} (h : (i : Int) = self ∨ to i = false) : JS self m to (i + 1) = JS self m to i := by
 unfold JS
 rw [List.range_succ, List.filter_append, List.map_append]
 rcases h with h | h <;> simp [h]
theorem KM (self : Int) (m : YB) (to : Nat → Bool) (i : Nat) : (JS self m to i).length ≤ i := by
 unfold JS
 rw [List.length_map]
 have := List.length_filter_le (fun i : Nat => !((i : Int) == self) && to i) (List.range i)
 rwa [List.length_range] at this
def Yp (r : Nat → Bool) (j : Nat) (b : Bool) : Nat → Bool := fun i => if i = j then b else r i
def Xv : Nat → Bool := fun _ => true
def JD (s : Nd) (p : Pp) (to : Nat → Bool) : List YB := JS s.self ⟨1, 0, 0, s.num, p.v⟩ to s.n.toNat
def W5 (s : Nd) : List YB := JS s.self ⟨4, 0, 0, 0, s.lrn⟩ Xv s.n.toNat
theorem Qdk (s : Nd) (p : Pp) (to : Nat → Bool) : (JD s p to).length ≤ s.n.toNat := KM ..
theorem Qer (s : Nd) : (W5 s).length ≤ s.n.toNat := KM ..
def Qc2 (s : Nd) (p : Pp) : Nd := { s with acc := p.v, num := s.num + 1 }
def Qbw (l : Qv) (s : Nd) (p : Pp) : Pp := { p with g := Qn l, ack := Yp (fun _ => false) s.self.toNat true }
def Qg7 (l : Qv) (s : Nd) : Pp := ⟨Qk l s.acc s.wt, Qp.zero, fun _ => false, 0⟩
def Xq (l : Qv) (s : Nd) : Nd := Qc2 { s with wt := Qn l } (Qg7 l s)
def Q1 (l : Qv) (s : Nd) : Pp := Qbw l s (Qg7 l s)
def QT (l : Qv) (s : Nd) (p : Pp) : Nd := { s with lrn := if QJ l s.lrn p.v then p.v else s.lrn }
def Kq (s : Nd) (p : Pp) : Bool := decide (QdI s.n ≤ (QtD p.ack : Int))
def QjE (l : Qv) (s : Nd) : (Nd × Option Pp) × List YB :=
 if Kq (Xq l s) (Q1 l s) then ((QT l (Xq l s) (Q1 l s), none), JD (Xq l s) (Q1 l s) Xv ++ W5 (QT l (Xq l s) (Q1 l s)))
 else ((Xq l s, some (Q1 l s)), JD (Xq l s) (Q1 l s) Xv)
def Qls (l : Qv) (s : Nd) : (Nd × Option Pp) × List YB := if WH s.wt (Qn l) then ((s, none), []) else QjE l s
theorem Qnh {j : Nat} (h : j < 12) : j = 0 ∨ j = 1 ∨ j = 2 ∨ j = 3 ∨ j = 4 ∨ j = 5 ∨ j = 6 ∨ j = 7 ∨ j = 8 ∨ j = 9 ∨ j = 10 ∨ j = 11 := by omega
theorem Qm9 {α : Type} {g : α → List AV} (hg : ∀ i, fzs (g i) = some (g i)) (l : List α) : ∀ e ∈ l.map g, fzs e = some e := fun e he => by
 obtain ⟨i, -, rfl⟩ := List.mem_map.1 he;exact hg i
theorem Qqt {α : Type} {k : Nat} {g : α → List AV} (hg : ∀ i, okE k (g i) = true) (l : List α) : (l.map g).all (okE k) = true := by
 rw [List.all_map, List.all_eq_true]
 exact fun i _ => hg i
abbrev Xy (l : Qv) (s : Nd) (x : AV) : List AV := [i64 l.k, i64 l.lo, i64 l.hi, XS l.nm, Qkk l.ps, rus l.rs, i64 s.n, i64 s.self, i64 s.acc.N, XS s.acc.nm, Y8 s.acc.ps, WA s.acc.es, i64 s.lrn.N, XS s.lrn.nm, Y8 s.lrn.ps, WA s.lrn.es, i64 s.wt.N, XS s.wt.nm, Y8 s.wt.ps, WA s.wt.es, i64 s.num, x]
abbrev Jk (p : Pp) : List AV := [i64 p.v.N, XS p.v.nm, Y8 p.v.ps, WA p.v.es, i64 p.g.N, XS p.g.nm, Y8 p.g.ps, WA p.g.es, bl (p.ack 0), bl (p.ack 1), bl (p.ack 2), bl (p.ack 3), bl (p.ack 4), bl (p.ack 5), bl (p.ack 6), bl (p.ack 7), bl (p.ack 8), bl (p.ack 9), bl (p.ack 10), bl (p.ack 11), i64 p.ref]
abbrev Jv : AV := .p (.pointer none)
theorem QsA {p : Pp} {j : Nat} (h : j < 12) : (Jk p).drop (8 + j * 1) = bl (p.ack j) :: (Jk p).drop (9 + j * 1) := by
 rcases Qnh h with rfl | rfl | rfl | rfl | rfl | rfl | rfl | rfl | rfl | rfl | rfl | rfl <;> rfl
theorem QjD {p : Pp} {j : Nat} (h : j < 12) : Yx (Jk p) (8 + j * 1) [bl true] = Jk { p with ack := Yp p.ack j true } := by
 rcases Qnh h with rfl | rfl | rfl | rfl | rfl | rfl | rfl | rfl | rfl | rfl | rfl | rfl <;> rfl
theorem QvO {T : TypeId} {p : Pp} {j : Nat} (h : j < 12) {st : St} {q : Nat} (hq : Qj st.H q = some (.var T (Jk p))) : st.at_ (.ptr q (8 + j * 1)) = some (bl (p.ack j) :: (Jk p).drop (9 + j * 1)) := by
 simp only [St.at_, hq]
 rw [← QsA h]
theorem QnG {p : Pp} {j : Nat} (h : j < 12) {y : AV} : 8 + j * 1 + [y].length ≤ (Jk p).length := by show 8 + j * 1 + 1 ≤ 21; omega
theorem Qth (a : Qp) : JI 4 1 [i64 a.N, XS a.nm, Y8 a.ps, WA a.es] = [a].map KV := by
 show [QF a] = _
 simp [W0]
theorem Qt3 (a b c : Qp) : JI 4 3 [i64 a.N, XS a.nm, Y8 a.ps, WA a.es, i64 b.N, XS b.nm, Y8 b.ps, WA b.es, i64 c.N, XS c.nm, Y8 c.ps, WA c.es] = [a, b, c].map KV := by
 show [QF a, QF b, QF c] = _
 simp [W0]
theorem QtU (l : Qv) (hc : QB l = 0) : FC Tryz.prog 107 [.agg (Q2 l)] (.tup [.agg (QF (Qn l)), i64 0]) := by
 have h := Qi0 l
 rw [YC, if_pos hc] at h;exact h
theorem Qtt (l : Qv) (hc : QB l = 0) {vs : List Qp} (hv : ∀ v ∈ vs, El l 100000 v) (hl : vs.length ≤ 4) : FC Tryz.prog 127 [.agg (Q2 l), Y8 vs] (.tup [.agg (QF (YL l vs)), i64 0]) := by
 have h := QmV l vs (fun _ => QpL (Xb hc) hv hl)
 rwa [QkU (Qie hc (List.all_eq_true.2 fun v hv' => (hv v hv').1)) rfl] at h
theorem KS (l : Qv) {a b : Qp} (hc : QB l = 0) (ha : Qw a l = true) (hb : Qw b l = true) : FC Tryz.prog 84 [.agg (Q2 l), .agg (QF a), .agg (QF b)] (bl (QJ l a b)) := by
 have h := Qsv l a b
 rwa [Qbo hc ha hb] at h
theorem Yo {L : Nat} {te : TypeId} (l : List YB) : JO L (.arr te 8 (l.map fun b => Jw b)) = true := Q4 (fun _ => rfl) l
theorem Xc (l : List YB) : ∀ e ∈ l.map (fun b => Jw b), fzs e = some e := Qm9 (fun _ => rfl) l
theorem JN (l : List YB) : (l.map fun b => Jw b).all (okE 8) = true := Qqt (fun _ => rfl) l
theorem QdB (l : Qv) (v : Qp) (hc : QB l = 0) : FC Tryz.prog 93 [.agg (Q2 l), .agg (QF v)] (bl (WH v (Qn l))) := by
 refine Qh [4] Tryz.func93 rfl rfl 14 Tryz.ntmps93 (Nat.le_of_ble_eq_true rfl) ?_
 intro E hN;refine Xg ?_;refine zD 9 ?_;refine zl ?_;refine zp (Qd (by have h := QbG l; rw [hc] at h; exact h) rfl rfl rfl) ?_;refine QC ?_;refine zp (Qd (Qdx l (Xb hc)) rfl rfl rfl) ?_;refine zp (Qd (Qfu _ _) rfl rfl rfl) ?_;refine QH ?_;refine zQ ?_
 rfl
theorem Qaq (l : Qv) (s : Nd) (x : AV) (R : List (Nat × Qs)) (hH : XD ((Qe, .var 131 (Xy l s x)) :: R)) (hc : QB l = 0) : GC Tryz.prog 78 [.ptr Qe 0] ((Qe, .var 131 (Xy l s x)) :: R) (.agg (QF (Qn l))) ((Qe, .var 131 (Xy l s x)) :: R) := by
 refine YG [.c 2 30 4 true] ⟨⟨inferInstance, rfl⟩, trivial⟩ Tryz.func78 rfl rfl 14 Tryz.ntmps78 (Nat.le_of_ble_eq_true rfl) ?_
 intro E hN;refine Xs ?_;refine zP (Qd (QtU l hc) rfl rfl rfl) ?_;refine Jx ?_;refine Qg ?_;change (resY _ _).bind AV.fzt = some _ ∧ _;refine K7 hH hH.pp rfl ?_
 rfl
theorem Qhq (l : Qv) (s : Nd) (x : AV) (R : List (Nat × Qs)) (hH : XD ((Qe, .var 131 (Xy l s x)) :: R)) (hc : QB l = 0) {vs : List Qp} (hv : ∀ v ∈ vs, El l 100000 v) (hl : vs.length ≤ 4) : GC Tryz.prog 79 [.ptr Qe 0, Y8 vs] ((Qe, .var 131 (Xy l s x)) :: R) (.agg (QF (YL l vs))) ((Qe, .var 131 (Xy l s x)) :: R) := by
 refine YG [.c 4 30 4 true] ⟨⟨inferInstance, rfl⟩, trivial⟩ Tryz.func79 rfl rfl 17 Tryz.ntmps79 (Nat.le_of_ble_eq_true rfl) ?_
 intro E hN;refine Xn ?_;refine zP (Qd (Qtt l hc hv hl) rfl rfl rfl) ?_;refine Jx ?_;refine Qg ?_;change (resY _ _).bind AV.fzt = some _ ∧ _;refine K7 hH hH.pp rfl ?_
 rfl
theorem Wt (l : Qv) (s : Nd) (x : AV) (R : List (Nat × Qs)) (hH : XD ((Qe, .var 131 (Xy l s x)) :: R)) (hc : QB l = 0) {a b : Qp} (ha : El l 100000 a) (hb : El l 100000 b) : GC Tryz.prog 79 [.ptr Qe 0, Y8 [a, b]] ((Qe, .var 131 (Xy l s x)) :: R) (.agg (QF (Qk l a b))) ((Qe, .var 131 (Xy l s x)) :: R) := by
 have h := Qhq l s x R hH hc (vs := [a, b]) (by intro v hv; simp at hv; rcases hv with rfl | rfl <;> assumption) (by simp)
 rwa [QpK (Xb hc) ha.1] at h
theorem Qon (l : Qv) (s : Nd) (x : AV) (R : List (Nat × Qs)) (hH : XD ((Qe, .var 131 (Xy l s x)) :: R)) (hc : QB l = 0) {a b c : Qp} (ha : El l 100000 a) (hb : El l 100000 b) (hd : El l 100000 c) : GC Tryz.prog 79 [.ptr Qe 0, Y8 [a, b, c]] ((Qe, .var 131 (Xy l s x)) :: R) (.agg (QF (Qk l (Qk l a b) c))) ((Qe, .var 131 (Xy l s x)) :: R) := by
 have h := Qhq l s x R hH hc (vs := [a, b, c]) (by intro v hv; simp at hv; rcases hv with rfl | rfl | rfl <;> assumption) (by simp)
 rwa [Qm2 (Xb hc) ha.1] at h
theorem JH (l : Qv) (s : Nd) (x : AV) (R : List (Nat × Qs)) (hH : XD ((Qe, .var 131 (Xy l s x)) :: R)) (hc : QB l = 0) {v : Qp} (hv : El l 100000 v) : GC Tryz.prog 85 [.ptr Qe 0, .agg (QF v)] ((Qe, .var 131 (Xy l s x)) :: R) (.agg (QF v)) ((Qe, .var 131 (Xy l s x)) :: R) := by
 refine YG [.c 4 30 4 true] ⟨⟨inferInstance, rfl⟩, trivial⟩ Tryz.func85 rfl rfl 9 Tryz.ntmps85 (Nat.le_of_ble_eq_true rfl) ?_
 intro E hN;refine X3 ?_;refine zP (J7 rfl rfl rfl rfl (by exact rfl) (by decide) (by decide) (Qth v)) ?_;refine zP (QE hH (show GC _ _ [.ptr Qe 0, Y8 [v]] _ (.agg (QF v)) _ from (by have h := Qhq l s x R hH hc (vs := [v]) (by simpa using hv) (by simp); rwa [Qk5 (Xb hc) hv.1] at h)) rfl rfl rfl hH.pp) ?_;refine QH ?_;refine Qg ?_;change (resY _ _).bind AV.fzt = some _ ∧ _;refine K7 hH hH.pp rfl ?_
 rfl
theorem Qcr (l : Qv) (s : Nd) (x : AV) (R : List (Nat × Qs)) (hH : XD ((Qe, .var 131 (Xy l s x)) :: R)) (hc : QB l = 0) (hv : El l 100000 s.acc) : GC Tryz.prog 49 [.ptr Qe 0] ((Qe, .var 131 (Xy l s x)) :: R) (.agg (QF s.acc)) ((Qe, .var 131 (Xy l s x)) :: R) := by
 refine YG [.c 2 30 4 true] ⟨⟨inferInstance, rfl⟩, trivial⟩ Tryz.func49 rfl rfl 9 Tryz.ntmps49 (Nat.le_of_ble_eq_true rfl) ?_
 intro E hN;refine Xn ?_;refine zP (QE hH (JH l s x R hH hc hv) rfl rfl rfl hH.pp) ?_;refine QH ?_;refine Qg ?_;change (resY _ _).bind AV.fzt = some _ ∧ _;refine K7 hH hH.pp rfl ?_
 rfl
theorem QcN (l : Qv) (s : Nd) (x : AV) (R : List (Nat × Qs)) (hH : XD ((Qe, .var 131 (Xy l s x)) :: R)) (hc : QB l = 0) (hv : El l 100000 s.lrn) : GC Tryz.prog 50 [.ptr Qe 0] ((Qe, .var 131 (Xy l s x)) :: R) (.agg (QF s.lrn)) ((Qe, .var 131 (Xy l s x)) :: R) := by
 refine YG [.c 2 30 4 true] ⟨⟨inferInstance, rfl⟩, trivial⟩ Tryz.func50 rfl rfl 9 Tryz.ntmps50 (Nat.le_of_ble_eq_true rfl) ?_
 intro E hN;refine Xn ?_;refine zP (QE hH (JH l s x R hH hc hv) rfl rfl rfl hH.pp) ?_;refine QH ?_;refine Qg ?_;change (resY _ _).bind AV.fzt = some _ ∧ _;refine K7 hH hH.pp rfl ?_
 rfl
theorem QcZ (l : Qv) (s : Nd) (x : AV) (R : List (Nat × Qs)) (hH : XD ((Qe, .var 131 (Xy l s x)) :: R)) (hc : QB l = 0) (hv : El l 100000 s.wt) : GC Tryz.prog 51 [.ptr Qe 0] ((Qe, .var 131 (Xy l s x)) :: R) (.agg (QF s.wt)) ((Qe, .var 131 (Xy l s x)) :: R) := by
 refine YG [.c 2 30 4 true] ⟨⟨inferInstance, rfl⟩, trivial⟩ Tryz.func51 rfl rfl 9 Tryz.ntmps51 (Nat.le_of_ble_eq_true rfl) ?_
 intro E hN;refine Xn ?_;refine zP (QE hH (JH l s x R hH hc hv) rfl rfl rfl hH.pp) ?_;refine QH ?_;refine Qg ?_;change (resY _ _).bind AV.fzt = some _ ∧ _;refine K7 hH hH.pp rfl ?_
 rfl
theorem QeM {H : List (Nat × Qs)} (hH : XD H) (i : Int) : GC Tryz.prog 98 [i64 i] H (bl true) H := by
 refine XA [2] Tryz.func98 rfl rfl 3 Tryz.ntmps98 (Nat.le_of_ble_eq_true rfl) ?_
 intro E hN;refine Xo ?_;refine Qg ?_;change (Q7 _ _).fzt = some _ ∧ _;refine Yt hH hH.pp rfl ?_
 rfl
theorem Qn6 (l : Qv) (s : Nd) (x0 : AV) (R : List (Nat × Qs)) (hH : XD ((Qe, .var 131 (Xy l s x0)) :: R)) (hc : QB l = 0) (h1 : 1 ≤ s.n) (h2 : s.n ≤ 12) (m : YB) (hk : ¬ m.k = 2) (hm : El l 100000 m.v) (to : Nat → Bool) (g : FuncId) (caps : List AV) [Q8 Tryz.prog g] (hF : ∀ i : Nat, i < 12 → GC Tryz.prog g (i64 i :: caps) ((Qe, .var 131 (Xy l s x0)) :: R) (bl (to i)) ((Qe, .var 131 (Xy l s x0)) :: R)) (hcap : caps.all QdJ = true) (hcap2 : okId 2 (.fn g caps) = true) : GX Tryz.prog 134 [.ptr Qe 0, .agg (Jw m), .fn g caps] ((Qe, .var 131 (Xy l s x0)) :: R) (.own 1 (JS s.self m to s.n.toNat).length) ((1, (.arr 54 8 ((JS s.self m to s.n.toNat).map fun b => Jw b))) :: ((Qe, .var 131 (Xy l s x0)) :: R)) 2 := by
 refine QK [6] Tryz.func134 rfl rfl 50 Tryz.ntmps134 (Nat.le_of_ble_eq_true rfl) ?_
 intro E hN;refine Qes ?_;refine Qx (Wd rfl 7 54 8 rfl) ?_;refine Qm (fun x : {i : Nat // i ≤ s.n.toNat} => ⟨[(0, .ptr Qe 0), (2, .fn g caps), (4, .ptr 0 0), (7, .own 1 (JS s.self m to x.1).length), (13, i64 s.n), (14, i64 (x.1 : Nat))], (0, .var 54 (Jw m)) :: (1, (.arr 54 8 ((JS s.self m to x.1).map fun b => Jw b))) :: ((Qe, .var 131 (Xy l s x0)) :: R), 2⟩) (fun x => s.n.toNat - x.1) (⟨0, Nat.zero_le _⟩) ?_ ?_
 ·exact QI (pre := [(0, _), (1, _)]) hH rfl rfl ⟨rfl, rfl, rfl, hcap2, rfl, rfl, rfl, rfl, rfl, rfl, rfl, rfl, trivial⟩ ⟨rfl, rfl, rfl, rfl, rfl, (Yo _), trivial⟩ hH.pp
 rintro ⟨i, hi⟩;dsimp only;refine Qy ?_
 refine zq ?_ ?_ <;> intro h13
 rotate_left
 ·have hge : ¬ (i : Int) < s.n := by simpa using h13
  obtain rfl : i = s.n.toNat := by omega
  refine Xk ?_;refine Qg ?_;change (Q7 _ _).ntt = _ ∧ _;refine Qeb hH hH.pp rfl ?_ rfl rfl rfl rfl ?_ rfl (Yo _)
  ·rfl
  rfl
 have hlt : (i : Int) < s.n := by simpa using h13
 have hi12 : i < 12 := by omega
 refine Qd8 ?_
 refine zc 23 ?_ ?_ <;> intro h16
 rotate_left
 ·have he : (i : Int) = s.self := by simpa using h16
  refine Xs ?_;refine Qb ?_;exact ⟨⟨i + 1, by omega⟩, QI (pre := [(0, _), (1, _)]) hH rfl rfl ⟨rfl, rfl, rfl, hcap2, rfl, rfl, (by first | (rw [Jt hne ht, List.length_append]; rfl) | (rw [Xp (.inl he)]; rfl) | (rw [Xp (.inr ht)]; rfl)), rfl, rfl, rfl, X5, rfl, trivial⟩ ⟨rfl, rfl, rfl, (by first | (rw [Jt hne ht, List.map_append]; rfl) | (rw [Xp (.inl he)]; rfl) | (rw [Xp (.inr ht)]; rfl)), rfl, (Yo _), trivial⟩ hH.pp, by dsimp only; omega⟩
 have hne : ¬ (i : Int) = s.self := by simpa using h16
 refine QH ?_;refine uP (XO h16) (Qpu hH (hF i hi12) rfl rfl rfl rfl (by rw [List.all_cons, hcap]; rfl) hH.pp) ?_;refine QH ?_
 refine zq ?_ ?_ <;> intro h17
 rotate_left
 ·have ht : to i = false := h17
  refine QC ?_;refine Qb ?_;exact ⟨⟨i + 1, by omega⟩, QI (pre := [(0, _), (1, _)]) hH rfl rfl ⟨rfl, rfl, rfl, hcap2, rfl, rfl, (by first | (rw [Jt hne ht, List.length_append]; rfl) | (rw [Xp (.inl he)]; rfl) | (rw [Xp (.inr ht)]; rfl)), rfl, rfl, rfl, X5, rfl, trivial⟩ ⟨rfl, rfl, rfl, (by first | (rw [Jt hne ht, List.map_append]; rfl) | (rw [Xp (.inl he)]; rfl) | (rw [Xp (.inr ht)]; rfl)), rfl, (Yo _), trivial⟩ hH.pp, by dsimp only; omega⟩
 have ht : to i = true := h17
 refine QrA ?_;refine zP (Ql (b := true) rfl rfl rfl (by simpa using hk)) ?_;refine Xk ?_;refine zP (QE hH (JH l s x0 R hH hc hm) rfl rfl rfl hH.pp) ?_;refine Xk ?_;refine zP (QG rfl rfl rfl rfl (by exact rfl) (by decide) (by decide)) ?_;refine QS hN rfl rfl rfl (by rw [List.length_map]) rfl rfl rfl (by rw [List.length_map]; have := KM s.self m to i; refine ⟨?_, ?_⟩ <;> simp [JI] <;> omega) rfl rfl rfl rfl ?_;refine Qy ?_;refine Qb ?_
 exact ⟨⟨i + 1, by omega⟩, QI (pre := [(0, _), (1, _)]) hH rfl rfl ⟨rfl, rfl, rfl, hcap2, rfl, rfl, (by first | (rw [Jt hne ht, List.length_append]; rfl) | (rw [Xp (.inl he)]; rfl) | (rw [Xp (.inr ht)]; rfl)), rfl, rfl, rfl, X5, rfl, trivial⟩ ⟨rfl, rfl, rfl, (by first | (rw [Jt hne ht, List.map_append]; rfl) | (rw [Xp (.inl he)]; rfl) | (rw [Xp (.inr ht)]; rfl)), rfl, (Yo _), trivial⟩ hH.pp, by dsimp only; omega⟩
end Go.Proofs.YtnkkokmmeplbgaaGreat
