/-
  Contracts of the reference: a node: readers, messages, numbe
-/
import Derived.Test.YtnkkokmmeplbgaaGreatN4
import Derived.Test.YtnkkokmmeplbgaaGreatA13
import Derived.Test.YtnkkokmmeplbgaaGreatT5
import Derived.Test.YtnkkokmmeplbgaaGreatA5
import Derived.Test.YtnkkokmmeplbgaaGreatA10
import Derived.Test.YtnkkokmmeplbgaaGreatA3
namespace Go.Proofs.YtnkkokmmeplbgaaGreat
set_option maxRecDepth 100000
set_option maxHeartbeats 1000000
open Go.RowKit
abbrev XZ (l : Qv) (s : Nd) (has : Bool) (v g : Qp) (ak : AV) (rf : Int) : List AV := rnC l s.n s.self s.acc s.lrn s.wt s.num has v g ak rf
def QL (n : Nat) (ack : Nat → Bool) : List Bool := (List.range n).map ack
theorem X8 (n : Nat) (ack : Nat → Bool) : (QL n ack).length = n := by simp [QL]
theorem QbJ {n : Nat} {ack : Nat → Bool} {j : Nat} (h : j < n) : (QL n ack)[j]? = some (ack j) := by simp [QL, h]
theorem QcJ {n : Nat} {ack : Nat → Bool} {j : Nat} : (QL n ack).set j true = QL n (Yp ack j true) := by
 refine List.ext_getElem? fun i => ?_
 rw [List.getElem?_set]
 by_cases h : j = i
 ·subst h
  by_cases h2 : j < n
  ·rw [if_pos rfl, if_pos (by rw [X8]; exact h2), QbJ h2]; simp [Yp]
  rw [if_pos rfl, if_neg (by rw [X8]; exact h2), List.getElem?_eq_none (by rw [X8]; omega)]
 rw [if_neg h]
 by_cases h2 : i < n
 ·rw [QbJ h2, QbJ h2, Yp, if_neg (Ne.symm h)]
 rw [List.getElem?_eq_none (by rw [X8]; omega), List.getElem?_eq_none (by rw [X8]; omega)]
theorem Qiw (n : Nat) : List.replicate n [AV.p (.bool false)] = (QL n fun _ => false).map Xw := by
 refine List.ext_getElem? fun i => ?_
 rw [List.getElem?_replicate, List.getElem?_map]
 by_cases h : i < n
 ·rw [if_pos h, QbJ h]; rfl
 rw [if_neg h, List.getElem?_eq_none (by rw [X8]; omega)]; rfl
theorem Qc (l : List Bool) : ∀ e ∈ l.map Xw, fzs e = some e := Qm9 (fun _ => rfl) l
theorem Qkn {ack : Nat → Bool} {n : Nat} (h : ∀ i, n ≤ i → ack i = false) : ∀ d, WD ack (n + d) = WD ack n
 | 0 => rfl
 | d + 1 => by rw [← Nat.add_assoc, Qco (h _ (by omega)), Qkn h d]
theorem QrE (l : Qv) {a b : Qp} (hc : QB l = 0) (ha : El l 100000 a) (hb : Qw b l = true) : FC Tryz.prog 56 [.agg (Q2 l), .agg (QF a), .agg (QF b)] (bl (QJ l a b)) := by
 have h := Qqs l a b (ha.2.up (by omega))
 rwa [Qbo hc ha.1 hb] at h
theorem QfE (l : Qv) {a b : Qp} (hc : QB l = 0) (ha : El l 100000 a) (hb : El l 100000 b) : FC Tryz.prog 117 [.agg (Q2 l), .agg (QF a), .agg (QF b)] (.tup [.agg (QF (Qk l a b)), i64 0]) := by
 have h := QrG l (show 100000 + 100000 ≤ 1000000 by decide) a b ha.2 hb.2
 rw [show Qip l a b = (Qk l a b, 0) by rw [Qip, if_pos (Qie hc (by simp [ha.1, hb.1]))]] at h;exact h
theorem QiV (n : Int) (h1 : 1 ≤ n) (h2 : n ≤ 12) : FC Tryz.prog 167 [i64 1, i64 n] (bl true) := by
 refine Qh [4] Tryz.func167 rfl rfl 19 Tryz.ntmps167 (Nat.le_of_ble_eq_true rfl) ?_
 intro E hN;refine YI ?_;refine zP (Ql (b := true) rfl rfl rfl (by simpa using h1)) ?_;refine QD ?_;refine zP (Ql (b := true) rfl rfl rfl (by simpa using h2)) ?_;refine QH ?_;refine zQ ?_
 rfl
theorem Qmx (n : Int) (h1 : 1 ≤ n) (h2 : n ≤ 12) : FC Tryz.prog 168 [i64 1, i64 n] (i64 ((n - 1) / 2)) := by
 refine Qh [4] Tryz.func168 rfl rfl 17 Tryz.ntmps168 (Nat.le_of_ble_eq_true rfl) ?_
 intro E hN;refine X3 ?_;refine zP (Qd (QiV n h1 h2) rfl rfl rfl) ?_;refine QdK ?_;refine zP (Kb rfl rfl rfl (by omega)) ?_;refine zP (Quv rfl rfl rfl (by decide)) ?_;refine zS ?_;refine zQ ?_;exact congrArg (fun z : Int => i64 z) (QvK h1 h2)
theorem Qrv (n : Int) (h1 : 1 ≤ n) (h2 : n ≤ 12) : FC Tryz.prog 132 [i64 1, i64 n] (i64 (QdI n)) := by
 refine Qh [4] Tryz.func132 rfl rfl 14 Tryz.ntmps132 (Nat.le_of_ble_eq_true rfl) ?_
 intro E hN;refine X3 ?_;refine zP (Qd (QiV n h1 h2) rfl rfl rfl) ?_;refine X3 ?_;refine zP (Qd (Qmx n h1 h2) rfl rfl rfl) ?_;refine zP (Kb rfl rfl rfl (by omega)) ?_;refine zS ?_;refine zQ ?_
 rfl
theorem Qfd (l : Qv) (s : Nd) (has : Bool) (v g : Qp) (ak : AV) (rf : Int) (R : List (Nat × Qs)) (hH : XD ((Qe, .var 80 (XZ l s has v g ak rf)) :: R)) (hc : QB l = 0) : GC Tryz.prog 128 [.ptr Qe 0] ((Qe, .var 80 (XZ l s has v g ak rf)) :: R) (.agg (QF (Qn l))) ((Qe, .var 80 (XZ l s has v g ak rf)) :: R) := by
 refine YG [.c 2 30 4 true] ⟨⟨inferInstance, rfl⟩, trivial⟩ Tryz.func128 rfl rfl 14 Tryz.ntmps128 (Nat.le_of_ble_eq_true rfl) ?_
 intro E hN;refine Xs ?_;refine zP (Qd (Qlj l hc) rfl rfl rfl) ?_;refine Jx ?_;refine Qg ?_;change (resY _ _).bind AV.fzt = some _ ∧ _;refine K7 hH hH.pp rfl ?_
 rfl
theorem Kn (l : Qv) (s : Nd) (has : Bool) (v g : Qp) (ak : AV) (rf : Int) (R : List (Nat × Qs)) (hH : XD ((Qe, .var 80 (XZ l s has v g ak rf)) :: R)) (hc : QB l = 0) {a b : Qp} (ha : El l 100000 a) (hb : El l 100000 b) : GC Tryz.prog 81 [.ptr Qe 0, .agg (QF a), .agg (QF b)] ((Qe, .var 80 (XZ l s has v g ak rf)) :: R) (.agg (QF (Qk l a b))) ((Qe, .var 80 (XZ l s has v g ak rf)) :: R) := by
 refine YG [.c 6 30 4 true] ⟨⟨inferInstance, rfl⟩, trivial⟩ Tryz.func81 rfl rfl 20 Tryz.ntmps81 (Nat.le_of_ble_eq_true rfl) ?_
 intro E hN;refine Xg ?_;refine Qx (Qau 4 0 rfl rfl rfl (Qhr rfl (Qhr rfl (Qlp (hH.erase rfl))))) ?_;refine Qx (Qau 5 1 rfl rfl rfl (Qhr rfl (Qlp (hH.erase rfl)))) ?_;refine Qpr hN 13 rfl (by kernel_rfl) (by kernel_rfl) (fun _ _ h => h) (fun E2 hN2 => ?_);refine QeD 0 rfl (by kernel_rfl) (by kernel_rfl) rfl ((JJ hN2 rfl rfl rfl rfl rfl rfl).wf) ?_;refine QeD 1 rfl (by kernel_rfl) (by kernel_rfl) rfl ((Qcj hN2 rfl rfl rfl rfl rfl rfl rfl).wf) ?_
 refine QeD 2 rfl (by kernel_rfl) (by kernel_rfl) rfl ((XJ hN2 rfl rfl rfl rfl rfl rfl rfl rfl).wf) ?_;refine QeD 4 rfl (by kernel_rfl) (by kernel_rfl) rfl (QnN hN2 rfl rfl rfl rfl rfl rfl rfl rfl) ?_;refine QeD 5 rfl (by kernel_rfl) (by kernel_rfl) rfl (QnN hN2 rfl rfl rfl rfl rfl rfl rfl rfl) ?_;refine Qtc ?_;refine Qap [3, 10] (by kernel_rfl) rfl ⟨.inl (JA rfl ?_), .inr (.inr (QgV hN2 rfl rfl rfl rfl rfl rfl rfl ?_)), trivial⟩
 ·refine Qbl hN2 (QbE rfl rfl rfl rfl rfl) rfl rfl rfl rfl ?_;change AU _ _ _ _ _ _ _ _;refine Qap [6, 10] (by kernel_rfl) rfl ⟨.inl (JA rfl ?_), .inr (.inr (QgV hN2 rfl rfl rfl rfl rfl rfl rfl ?_)), trivial⟩
  ·refine Qbl hN2 (Qd (QfE l hc ha hb) rfl rfl rfl) rfl rfl rfl rfl ?_;change AU _ _ _ _ _ _ _ _;refine Jm 7 rfl (by kernel_rfl) (by kernel_rfl) rfl (JJ hN2 rfl rfl rfl rfl rfl rfl) ?_;refine Jm 8 rfl (by kernel_rfl) (by kernel_rfl) rfl (Qai hN2 rfl rfl rfl rfl rfl rfl rfl) ?_;refine Jm 9 rfl (by kernel_rfl) (by kernel_rfl) rfl (Qai hN2 rfl rfl rfl rfl rfl rfl rfl) ?_;refine Qap [10] (by kernel_rfl) rfl ⟨.inr (.inr (QgV hN2 rfl rfl rfl rfl rfl rfl rfl ?_)), trivial⟩;change AU _ _ _ _ _ _ _ _;refine yS 11 ?_
   refine Jm 12 rfl (by kernel_rfl) (by kernel_rfl) rfl (Yi hN2 rfl rfl rfl rfl rfl rfl) ?_;refine yD ?_;change Ym _ _ _ _ _;refine Qy ?_;refine Qg ?_;change (resY _ _).bind AV.fzt = some _ ∧ _;refine K7 hH hH.pp rfl ?_
   rfl
  change AU _ _ _ _ _ _ _ _;refine Qap [6] (by kernel_rfl) rfl ⟨.inl (JA rfl ?_), trivial⟩;refine Qbl hN2 (Qd (QfE l hc ha hb) rfl rfl rfl) rfl rfl rfl rfl ?_;change AU _ _ _ _ _ _ _ _;refine Jm 7 rfl (by kernel_rfl) (by kernel_rfl) rfl (JJ hN2 rfl rfl rfl rfl rfl rfl) ?_;refine Jm 8 rfl (by kernel_rfl) (by kernel_rfl) rfl (Qai hN2 rfl rfl rfl rfl rfl rfl rfl) ?_;refine Jm 9 rfl (by kernel_rfl) (by kernel_rfl) rfl (Qai hN2 rfl rfl rfl rfl rfl rfl rfl) ?_;refine yS 11 ?_
  refine Jm 12 rfl (by kernel_rfl) (by kernel_rfl) rfl (Yi hN2 rfl rfl rfl rfl rfl rfl) ?_;refine yD ?_;change Ym _ _ _ _ _;refine Qy ?_;refine Qg ?_;change (resY _ _).bind AV.fzt = some _ ∧ _;refine K7 hH hH.pp rfl ?_
  rfl
 change AU _ _ _ _ _ _ _ _;refine Qap [3] (by kernel_rfl) rfl ⟨.inl (JA rfl ?_), trivial⟩;refine Qbl hN2 (QbE rfl rfl rfl rfl rfl) rfl rfl rfl rfl ?_;change AU _ _ _ _ _ _ _ _;refine Qap [6] (by kernel_rfl) rfl ⟨.inl (JA rfl ?_), trivial⟩;refine Qbl hN2 (Qd (QfE l hc ha hb) rfl rfl rfl) rfl rfl rfl rfl ?_;change AU _ _ _ _ _ _ _ _;refine Jm 7 rfl (by kernel_rfl) (by kernel_rfl) rfl (JJ hN2 rfl rfl rfl rfl rfl rfl) ?_;refine Jm 8 rfl (by kernel_rfl) (by kernel_rfl) rfl (Qai hN2 rfl rfl rfl rfl rfl rfl rfl) ?_
 refine Jm 9 rfl (by kernel_rfl) (by kernel_rfl) rfl (Qai hN2 rfl rfl rfl rfl rfl rfl rfl) ?_;refine yS 11 ?_;refine Jm 12 rfl (by kernel_rfl) (by kernel_rfl) rfl (Yi hN2 rfl rfl rfl rfl rfl rfl) ?_;refine yD ?_;change Ym _ _ _ _ _;refine Qy ?_;refine Qg ?_;change (resY _ _).bind AV.fzt = some _ ∧ _;refine K7 hH hH.pp rfl ?_
 rfl
theorem Y1 (l : Qv) (s : Nd) (has : Bool) (v g : Qp) (ak : AV) (rf : Int) (R : List (Nat × Qs)) (hH : XD ((Qe, .var 80 (XZ l s has v g ak rf)) :: R)) (hc : QB l = 0) {a b : Qp} (ha : El l 100000 a) (hb : Qw b l = true) : GC Tryz.prog 89 [.ptr Qe 0, .agg (QF a), .agg (QF b)] ((Qe, .var 80 (XZ l s has v g ak rf)) :: R) (bl (QJ l a b)) ((Qe, .var 80 (XZ l s has v g ak rf)) :: R) := by
 refine XA [6] Tryz.func89 rfl rfl 14 Tryz.ntmps89 (Nat.le_of_ble_eq_true rfl) ?_
 intro E hN;refine Xg ?_;refine zD 7 ?_;refine Xk ?_;refine zp (Qd (QrE l hc ha hb) rfl rfl rfl) ?_;refine zT ?_;refine Qg ?_;change (Q7 _ _).fzt = some _ ∧ _;refine Yt hH hH.pp rfl ?_
 rfl
theorem Qeq (l : Qv) (s : Nd) (has : Bool) (v g : Qp) (ak : AV) (rf : Int) (R : List (Nat × Qs)) (hH : XD ((Qe, .var 80 (XZ l s has v g ak rf)) :: R)) (h1 : 1 ≤ s.n) (h2 : s.n ≤ 12) (m : YB) : GX Tryz.prog 99 [.ptr Qe 0, .agg (Jw m), bl false] ((Qe, .var 80 (XZ l s has v g ak rf)) :: R) (.own 1 (JS s.self m Xv s.n.toNat).length) ((1, (.arr 54 8 ((JS s.self m Xv s.n.toNat).map fun b => Jw b))) :: ((Qe, .var 80 (XZ l s has v g ak rf)) :: R)) 2 := by
 refine QK [6] Tryz.func99 rfl rfl 47 Tryz.ntmps99 (Nat.le_of_ble_eq_true rfl) ?_
 intro E hN;refine QdK ?_;refine Qx (Wd rfl 7 54 8 rfl) ?_;refine Qm (fun x : {z : Nat × Int × Int // z.1 ≤ s.n.toNat} => ⟨[(0, .ptr Qe 0), (2, bl false), (4, .ptr 0 0), (7, .own 1 (JS s.self m Xv x.1.1).length), (8, i64 (x.1.1 : Nat))], (0, .var 54 (Jw ⟨m.k, x.1.2.1, x.1.2.2, m.n, m.v⟩)) :: (1, (.arr 54 8 ((JS s.self m Xv x.1.1).map fun b => Jw b))) :: ((Qe, .var 80 (XZ l s has v g ak rf)) :: R), 2⟩) (fun x => s.n.toNat - x.1.1) (⟨(0, m.f, m.t), Nat.zero_le _⟩) ?_ ?_
 ·exact QI (pre := [(0, _), (1, _)]) hH rfl rfl ⟨rfl, rfl, rfl, rfl, rfl, rfl, rfl, rfl, rfl, rfl, trivial⟩ ⟨rfl, rfl, rfl, rfl, rfl, (Yo _), trivial⟩ hH.pp
 rintro ⟨⟨i, f, t⟩, hi⟩
 dsimp only at hi ⊢
 refine Xs ?_
 refine zq ?_ ?_ <;> intro h11
 rotate_left
 ·have hge : ¬ (i : Int) < s.n := by simpa using h11
  obtain rfl : i = s.n.toNat := by omega
  refine Xk ?_;refine Qg ?_;change (Q7 _ _).ntt = _ ∧ _;refine Qeb hH hH.pp rfl ?_ rfl rfl rfl rfl ?_ rfl (Yo _)
  ·rfl
  rfl
 have hlt : (i : Int) < s.n := by simpa using h11
 have hi12 : i < 12 := by omega
 have hlt' : i + 1 ≤ s.n.toNat := by omega
 refine WV ?_
 refine zc 23 ?_ ?_ <;> intro h14
 ·have he : (i : Int) = s.self := by simpa using h14
  refine Wn ?_;refine Qb ?_;exact ⟨⟨(i + 1, f, t), hlt'⟩, QI (pre := [(0, _), (1, _)]) hH rfl rfl ⟨rfl, rfl, rfl, rfl, rfl, rfl, (by first | (rw [Jt hne rfl, List.length_append]; rfl) | (rw [Xp (.inl he)]; rfl)), rfl, X5, rfl, trivial⟩ ⟨rfl, rfl, rfl, (by first | (rw [Jt hne rfl, List.map_append]; rfl) | (rw [Xp (.inl he)]; rfl)), rfl, (Yo _), trivial⟩ hH.pp, by dsimp only; omega⟩
 have hne : ¬ (i : Int) = s.self := by simpa using h14
 refine X3 ?_;refine uP (X0 h14) (Xx rfl rfl rfl rfl) ?_;refine Qes ?_;refine zP (QG rfl rfl rfl rfl (by exact rfl) (by decide) (by decide)) ?_;refine QS hN rfl rfl rfl (by rw [List.length_map]) rfl rfl rfl (by rw [List.length_map]; have h8 := KM s.self m Xv i; refine ⟨?_, ?_⟩ <;> simp [JI] <;> omega) rfl rfl rfl rfl ?_;refine Xk ?_;refine Qb ?_
 exact ⟨⟨(i + 1, s.self, i), hlt'⟩, QI (pre := [(0, _), (1, _)]) hH rfl rfl ⟨rfl, rfl, rfl, rfl, rfl, rfl, (by first | (rw [Jt hne rfl, List.length_append]; rfl) | (rw [Xp (.inl he)]; rfl)), rfl, X5, rfl, trivial⟩ ⟨rfl, rfl, rfl, (by first | (rw [Jt hne rfl, List.map_append]; rfl) | (rw [Xp (.inl he)]; rfl)), rfl, (Yo _), trivial⟩ hH.pp, by dsimp only; omega⟩
theorem QpD (l : Qv) (s : Nd) (p : Pp) (has : Bool) (v g : Qp) (rf : Int) (R : List (Nat × Qs)) (hH : XD ((Qe, .var 80 (XZ l s has v g (.own (Qe + 1) s.n.toNat) rf)) :: ((Qe + 1, .arr 4 1 ((QL s.n.toNat p.ack).map Xw)) :: R))) (h1 : 1 ≤ s.n) (h2 : s.n ≤ 12) (m : YB) : GX Tryz.prog 99 [.ptr Qe 0, .agg (Jw m), bl true] ((Qe, .var 80 (XZ l s has v g (.own (Qe + 1) s.n.toNat) rf)) :: ((Qe + 1, .arr 4 1 ((QL s.n.toNat p.ack).map Xw)) :: R)) (.own 1 (JS s.self m (fun i => !p.ack i) s.n.toNat).length) ((1, (.arr 54 8 ((JS s.self m (fun i => !p.ack i) s.n.toNat).map fun b => Jw b))) :: ((Qe, .var 80 (XZ l s has v g (.own (Qe + 1) s.n.toNat) rf)) :: ((Qe + 1, .arr 4 1 ((QL s.n.toNat p.ack).map Xw)) :: R))) 2 := by
 refine QK [6] Tryz.func99 rfl rfl 47 Tryz.ntmps99 (Nat.le_of_ble_eq_true rfl) ?_
 intro E hN;refine QdK ?_;refine Qx (Wd rfl 7 54 8 rfl) ?_
 refine Qm (fun x : {z : Nat × Int × Int // z.1 ≤ s.n.toNat} => ⟨[(0, .ptr Qe 0), (2, bl true), (4, .ptr 0 0), (7, .own 1 (JS s.self m (fun i => !p.ack i) x.1.1).length), (8, i64 (x.1.1 : Nat))], (0, .var 54 (Jw ⟨m.k, x.1.2.1, x.1.2.2, m.n, m.v⟩)) :: (1, (.arr 54 8 ((JS s.self m (fun i => !p.ack i) x.1.1).map fun b => Jw b))) :: ((Qe, .var 80 (XZ l s has v g (.own (Qe + 1) s.n.toNat) rf)) :: ((Qe + 1, .arr 4 1 ((QL s.n.toNat p.ack).map Xw)) :: R)), 2⟩) (fun x => s.n.toNat - x.1.1) (⟨(0, m.f, m.t), Nat.zero_le _⟩) ?_ ?_
 ·exact QI (pre := [(0, _), (1, _)]) hH rfl rfl ⟨rfl, rfl, rfl, rfl, rfl, rfl, rfl, rfl, rfl, rfl, trivial⟩ ⟨rfl, rfl, rfl, rfl, rfl, (Yo _), trivial⟩ hH.pp
 rintro ⟨⟨i, f, t⟩, hi⟩
 dsimp only at hi ⊢
 refine Xs ?_
 refine zq ?_ ?_ <;> intro h11
 rotate_left
 ·have hge : ¬ (i : Int) < s.n := by simpa using h11
  obtain rfl : i = s.n.toNat := by omega
  refine Xk ?_;refine Qg ?_;change (Q7 _ _).ntt = _ ∧ _;refine Qeb hH hH.pp rfl ?_ rfl rfl rfl rfl ?_ rfl (Yo _)
  ·rfl
  rfl
 have hlt : (i : Int) < s.n := by simpa using h11
 have hi12 : i < 12 := by omega
 have hlt' : i + 1 ≤ s.n.toNat := by omega
 refine WV ?_
 refine zc 23 ?_ ?_ <;> intro h14
 ·have he : (i : Int) = s.self := by simpa using h14
  refine Wn ?_;refine Qb ?_;exact ⟨⟨(i + 1, f, t), hlt'⟩, QI (pre := [(0, _), (1, _)]) hH rfl rfl ⟨rfl, rfl, rfl, rfl, rfl, rfl, (by first | (rw [Jt hne ht, List.length_append]; rfl) | (rw [Xp (.inl he)]; rfl) | (rw [Xp (.inr ht)]; rfl)), rfl, X5, rfl, trivial⟩ ⟨rfl, rfl, rfl, (by first | (rw [Jt hne ht, List.map_append]; rfl) | (rw [Xp (.inl he)]; rfl) | (rw [Xp (.inr ht)]; rfl)), rfl, (Yo _), trivial⟩ hH.pp, by dsimp only; omega⟩
 have hne : ¬ (i : Int) = s.self := by simpa using h14
 refine Xg ?_;refine zP (YD rfl rfl rfl rfl (by rw [List.length_map, X8]) i rfl (by omega)) ?_;refine zP (QnJ rfl rfl (QL s.n.toNat p.ack) rfl (X8 _ _).symm i rfl (QbJ (by omega))) ?_;refine uP (X0 h14) (XF rfl rfl rfl rfl) ?_;refine QH ?_
 refine zq ?_ ?_ <;> intro h19
 ·have ht : (!p.ack i) = false := by simpa using h19
  refine Qy ?_;refine Qb ?_;exact ⟨⟨(i + 1, f, t), hlt'⟩, QI (pre := [(0, _), (1, _)]) hH rfl rfl ⟨rfl, rfl, rfl, rfl, rfl, rfl, (by first | (rw [Jt hne ht, List.length_append]; rfl) | (rw [Xp (.inl he)]; rfl) | (rw [Xp (.inr ht)]; rfl)), rfl, X5, rfl, trivial⟩ ⟨rfl, rfl, rfl, (by first | (rw [Jt hne ht, List.map_append]; rfl) | (rw [Xp (.inl he)]; rfl) | (rw [Xp (.inr ht)]; rfl)), rfl, (Yo _), trivial⟩ hH.pp, by dsimp only; omega⟩
 have ht : (!p.ack i) = true := by simpa using h19
 refine QaL ?_;refine zP (QG rfl rfl rfl rfl (by exact rfl) (by decide) (by decide)) ?_;refine QS hN rfl rfl rfl (by rw [List.length_map]) rfl rfl rfl (by rw [List.length_map]; have h8 := KM s.self m (fun i => !p.ack i) i; refine ⟨?_, ?_⟩ <;> simp [JI] <;> omega) rfl rfl rfl rfl ?_;refine Xk ?_;refine Qb ?_
 exact ⟨⟨(i + 1, s.self, i), hlt'⟩, QI (pre := [(0, _), (1, _)]) hH rfl rfl ⟨rfl, rfl, rfl, rfl, rfl, rfl, (by first | (rw [Jt hne ht, List.length_append]; rfl) | (rw [Xp (.inl he)]; rfl) | (rw [Xp (.inr ht)]; rfl)), rfl, X5, rfl, trivial⟩ ⟨rfl, rfl, rfl, (by first | (rw [Jt hne ht, List.map_append]; rfl) | (rw [Xp (.inl he)]; rfl) | (rw [Xp (.inr ht)]; rfl)), rfl, (Yo _), trivial⟩ hH.pp, by dsimp only; omega⟩
theorem QgZ {st : St} {q n : Nat} {te : TypeId} {k : Nat} {es : List (List AV)} (hq : Qj st.H q = some (.arr te k es)) (h : es.length = n) : st.cells1 (.own q n) = some [.own q n] := by
 simp only [St.cells1, St.cell1, hq, h, Nat.beq_refl, cond_true]
theorem Qtj {s : Nd} {p : Pp} (hn : s.n ≤ 12) (h : ∀ i, s.n.toNat ≤ i → p.ack i = false) : decide ((WD p.ack s.n.toNat : Int) ≥ QdI s.n) = Kq s p := by
 have h2 := Qkn h (12 - s.n.toNat)
 rw [show s.n.toNat + (12 - s.n.toNat) = 12 by omega] at h2;rw [← h2]
 rfl
def Qfw (s : Nd) (p : Pp) : Prop := ∀ i, s.n.toNat ≤ i → p.ack i = false
theorem Qfw.ren {s : Nd} {p : Pp} {l : Qv} (h0 : 0 ≤ s.self) (h1 : s.self < s.n) : Qfw (Qc2 s p) (Qbw l s p) := fun i hi => by
 show Yp (fun _ => false) s.self.toNat true i = false
 have hi : s.n.toNat ≤ i := hi
 rw [Yp, if_neg (by omega)]
theorem QfD (l : Qv) (s : Nd) (has : Bool) (v g : Qp) (ak : AV) (rf : Int) (R : List (Nat × Qs)) (hH : XD ((Qe, .var 80 (XZ l s has v g ak rf)) :: R)) (h1 : 1 ≤ s.n) (h2 : s.n ≤ 12) : GX Tryz.prog 100 [.ptr Qe 0, bl false] ((Qe, .var 80 (XZ l s has v g ak rf)) :: R) (.own 1 (JS s.self ⟨1, 0, 0, s.num, v⟩ Xv s.n.toNat).length) ((1, (.arr 54 8 ((JS s.self ⟨1, 0, 0, s.num, v⟩ Xv s.n.toNat).map fun b => Jw b))) :: ((Qe, .var 80 (XZ l s has v g ak rf)) :: R)) 2 := by
 refine QK [4] Tryz.func100 rfl rfl 17 Tryz.ntmps100 (Nat.le_of_ble_eq_true rfl) ?_
 intro E hN;refine Qy ?_;refine zD 11 ?_;refine X3 ?_;refine zp (Kf rfl rfl rfl) ?_;refine zm ?_;refine WE hN hH (H := ((Qe, .var 80 (XZ l s has v g ak rf)) :: R)) (Xc _) (Qeq l s has v g ak rf R hH h1 h2 ⟨1, 0, 0, s.num, v⟩) (.fn _ _ _ _ rfl rfl) rfl hH.pp rfl rfl rfl rfl rfl rfl ?_;refine zT ?_;refine Qg ?_;change (Q7 _ _).ntt = _ ∧ _;refine Qeb hH hH.pp rfl ?_ rfl rfl rfl rfl ?_ rfl (Yo _)
 ·rfl
 rfl
theorem Qpf (l : Qv) (s : Nd) (p : Pp) (R : List (Nat × Qs)) (hH : XD ((Qe, .var 80 (XZ l s true p.v p.g (.own (Qe + 1) s.n.toNat) p.ref)) :: (((Qe + 1), .arr 4 1 ((QL s.n.toNat p.ack).map Xw)) :: R))) (h1 : 1 ≤ s.n) (h2 : s.n ≤ 12) : GX Tryz.prog 100 [.ptr Qe 0, bl true] ((Qe, .var 80 (XZ l s true p.v p.g (.own (Qe + 1) s.n.toNat) p.ref)) :: (((Qe + 1), .arr 4 1 ((QL s.n.toNat p.ack).map Xw)) :: R)) (.own 1 (JD s p (fun i => !p.ack i)).length) ((1, (.arr 54 8 ((JD s p (fun i => !p.ack i)).map fun b => Jw b))) :: ((Qe, .var 80 (XZ l s true p.v p.g (.own (Qe + 1) s.n.toNat) p.ref)) :: (((Qe + 1), .arr 4 1 ((QL s.n.toNat p.ack).map Xw)) :: R))) 2 := by
 refine QK [4] Tryz.func100 rfl rfl 17 Tryz.ntmps100 (Nat.le_of_ble_eq_true rfl) ?_
 intro E hN;refine Qy ?_;refine zD 11 ?_;refine X3 ?_;refine zp (Kf rfl rfl rfl) ?_;refine zm ?_;refine WE hN hH (H := ((Qe, .var 80 (XZ l s true p.v p.g (.own (Qe + 1) s.n.toNat) p.ref)) :: (((Qe + 1), .arr 4 1 ((QL s.n.toNat p.ack).map Xw)) :: R))) (Xc _) (QpD l s p true p.v p.g p.ref R hH h1 h2 ⟨1, 0, 0, s.num, p.v⟩) (.fn _ _ _ _ rfl rfl) rfl hH.pp rfl rfl rfl rfl rfl rfl ?_;refine zT ?_;refine Qg ?_;change (Q7 _ _).ntt = _ ∧ _;refine Qeb hH hH.pp rfl ?_ rfl rfl rfl rfl ?_ rfl (Yo _)
 ·rfl
 rfl
theorem W6 {T te : TypeId} {cs : List AV} {k : Nat} {es : List (List AV)} (h1 : cs.all Qd5 = true) (h2 : Qga [(Qe, .var T cs), (Qe + 1, .arr te k es)] (.var T cs) = true) (h3 : JO 0 (.var T cs) = true) (h4 : Nat.ble Qe Qe = true) (hz : ∀ e ∈ es, fzs e = some e) : XD [(Qe, .var T cs), (Qe + 1, .arr te k es)] := by
 have e1 : okB (.var T cs) = true := h1
 have e2 : okB (.arr te k es) = true := Xh hz
 have e3 : Qga [(Qe, .var T cs), (Qe + 1, .arr te k es)] (.arr te k es) = true := Xh hz
 have e4 : JO 0 (.arr te k es) = true := Yj hz
 refine XD.of ?_
 show ((Nat.ble Qe Qe && okB (.var T cs) && Qga [(Qe, .var T cs), (Qe + 1, .arr te k es)] (.var T cs) && true && JO 0 (.var T cs)) && ((Nat.ble Qe (Qe + 1) && okB (.arr te k es) && Qga [(Qe, .var T cs), (Qe + 1, .arr te k es)] (.arr te k es) && true && JO 0 (.arr te k es)) && true) && Qfs [(Qe, .var T cs), (Qe + 1, .arr te k es)]) = true
 rw [e1, h2, h3, e2, e3, e4, h4]; rfl
theorem Qlz (l : Qv) (s : Nd) (p : Pp) (g : Qp) (hc : QB l = 0) (hs0 : 0 ≤ s.self) (hs1 : s.self < s.n) (h2 : s.n ≤ 12) (hn0 : 0 ≤ s.num) (hn1 : s.num ≤ 1000000) : GX Tryz.prog 101 [.ptr Qe 0] [(Qe, .var 80 (XZ l s true p.v g (.sl [] none) p.ref))] (.tup []) [(Qe, .var 80 (XZ l (Qc2 s p) true p.v (Qn l) (.own 0 s.n.toNat) p.ref)), (0, .arr 4 1 ((QL s.n.toNat (Yp (fun _ => false) s.self.toNat true)).map Xw))] 1 := by
 have hH : XD [(Qe, .var 80 (XZ l s true p.v g (.sl [] none) p.ref))] := XD.of rfl
 refine QK [] Tryz.func101 rfl rfl 38 Tryz.ntmps101 (Nat.le_of_ble_eq_true rfl) ?_
 intro E hN;refine QC ?_;refine zP (QE hH (Qfd l s true p.v g (.sl [] none) p.ref [] hH hc) rfl rfl rfl hH.pp) ?_;refine QaZ ?_;refine X3 ?_;refine QnC hN rfl (k := 1) (zs := [.bool false]) rfl (y := 1) (by kernel_rfl) rfl rfl (n := s.n.toNat) (Y6 (by omega)) (Y6 (by omega)) (by omega) rfl rfl rfl rfl ?_;refine QH ?_;refine Qcp rfl rfl rfl rfl (QgZ rfl (by rw [List.length_replicate])) rfl (Nat.le_of_ble_eq_true rfl) rfl rfl rfl rfl ?_;refine zN ?_
 rw [show List.replicate s.n.toNat (List.map AV.p [.bool false]) = (QL s.n.toNat (fun _ => false)).map Xw from Qiw _];refine zD 9 ?_;refine Xo ?_;refine zp (YD rfl rfl rfl rfl (by rw [List.length_map, X8]) s.self.toNat (by omega) (by omega)) ?_;refine Qa9 hN rfl rfl (QL s.n.toNat (fun _ => false)) rfl (X8 _ _).symm s.self.toNat rfl (by rw [X8]; omega) rfl rfl rfl rfl ?_;refine Qb ?_;change (Q7 _ _).ntt = _ ∧ _;refine Ja rfl ?_ rfl rfl rfl ⟨rfl, rfl, rfl, (by rw [← QcJ]; rfl), rfl, Yj (Qc _), trivial⟩
 rfl
theorem Qrg (l : Qv) (s : Nd) (p : Pp) (g : Qp) (ak : Nat → Bool) (hc : QB l = 0) (hs0 : 0 ≤ s.self) (hs1 : s.self < s.n) (h2 : s.n ≤ 12) (hn0 : 0 ≤ s.num) (hn1 : s.num ≤ 1000000) : GX Tryz.prog 101 [.ptr Qe 0] [(Qe, .var 80 (XZ l s true p.v g (.own (Qe + 1) s.n.toNat) p.ref)), ((Qe + 1), .arr 4 1 ((QL s.n.toNat ak).map Xw))] (.tup []) [(Qe, .var 80 (XZ l (Qc2 s p) true p.v (Qn l) (.own 0 s.n.toNat) p.ref)), (0, .arr 4 1 ((QL s.n.toNat (Yp (fun _ => false) s.self.toNat true)).map Xw)), ((Qe + 1), .arr 4 1 ((QL s.n.toNat ak).map Xw))] 1 := by
 have hH : XD [(Qe, .var 80 (XZ l s true p.v g (.own (Qe + 1) s.n.toNat) p.ref)), ((Qe + 1), .arr 4 1 ((QL s.n.toNat ak).map Xw))] := W6 rfl rfl rfl rfl (Qc _)
 refine QK [] Tryz.func101 rfl rfl 38 Tryz.ntmps101 (Nat.le_of_ble_eq_true rfl) ?_
 intro E hN;refine QC ?_;refine zP (QE hH (Qfd l s true p.v g (.own (Qe + 1) s.n.toNat) p.ref [((Qe + 1), .arr 4 1 ((QL s.n.toNat ak).map Xw))] hH hc) rfl rfl rfl hH.pp) ?_;refine QaZ ?_;refine X3 ?_;refine QnC hN rfl (k := 1) (zs := [.bool false]) rfl (y := 1) (by kernel_rfl) rfl rfl (n := s.n.toNat) (Y6 (by omega)) (Y6 (by omega)) (by omega) rfl rfl rfl rfl ?_;refine QH ?_;refine Qcp rfl rfl rfl rfl (QgZ rfl (by rw [List.length_replicate])) rfl (Nat.le_of_ble_eq_true rfl) rfl rfl rfl rfl ?_;refine zN ?_
 rw [show List.replicate s.n.toNat (List.map AV.p [.bool false]) = (QL s.n.toNat (fun _ => false)).map Xw from Qiw _];refine zD 9 ?_;refine Xo ?_;refine zp (YD rfl rfl rfl rfl (by rw [List.length_map, X8]) s.self.toNat (by omega) (by omega)) ?_;refine Qa9 hN rfl rfl (QL s.n.toNat (fun _ => false)) rfl (X8 _ _).symm s.self.toNat rfl (by rw [X8]; omega) rfl rfl rfl rfl ?_;refine Qb ?_;change (Q7 _ _).ntt = _ ∧ _;refine Ja rfl ?_ rfl rfl rfl ⟨rfl, rfl, rfl, (by rw [← QcJ]; rfl), rfl, Yj (Qc _), rfl, rfl, Yj (Qc _), trivial⟩
 rfl
theorem Qfb (l : Qv) (s : Nd) (p : Pp) (h1 : 1 ≤ s.n) (h2 : s.n ≤ 12) (hk : Qfw s p) : GC Tryz.prog 90 [.ptr Qe 0] [(Qe, .var 80 (XZ l s true p.v p.g (.own (Qe + 1) s.n.toNat) p.ref)), ((Qe + 1), .arr 4 1 ((QL s.n.toNat p.ack).map Xw))] (bl (Kq s p)) [(Qe, .var 80 (XZ l s true p.v p.g (.own (Qe + 1) s.n.toNat) p.ref)), ((Qe + 1), .arr 4 1 ((QL s.n.toNat p.ack).map Xw))] := by
 have hH : XD [(Qe, .var 80 (XZ l s true p.v p.g (.own (Qe + 1) s.n.toNat) p.ref)), ((Qe + 1), .arr 4 1 ((QL s.n.toNat p.ack).map Xw))] := W6 rfl rfl rfl rfl (Qc _)
 refine XA [2] Tryz.func90 rfl rfl 29 Tryz.ntmps90 (Nat.le_of_ble_eq_true rfl) ?_
 intro E hN;refine YI ?_;refine Qm (fun x : {k : Nat // k ≤ s.n.toNat} => ⟨[(0, .ptr Qe 0), (3, i64 (WD p.ack x.1 : Nat)), (4, i64 (x.1 : Nat))], [(Qe, .var 80 (XZ l s true p.v p.g (.own (Qe + 1) s.n.toNat) p.ref)), ((Qe + 1), .arr 4 1 ((QL s.n.toNat p.ack).map Xw))], 0⟩) (fun x => s.n.toNat - x.1) (⟨0, Nat.zero_le _⟩) ?_ ?_
 ·exact Qa rfl (JZ trivial) ⟨rfl, rfl, rfl, rfl, rfl, (Yj (Qc _)), trivial⟩
 rintro ⟨k, hk'⟩;dsimp only;refine Xs ?_
 refine zq ?_ ?_ <;> intro h7
 rotate_left
 ·have hge : ¬ (k : Int) < s.n := by simpa using h7
  obtain rfl : k = s.n.toNat := by omega
  refine Xo ?_;refine zP (Qd (Qrv s.n h1 h2) rfl rfl rfl) ?_;refine QD ?_;refine Qg ?_;change (Q7 _ _).fzt = some _ ∧ _;refine Yt hH hH.pp rfl ?_;exact congrArg bl (Qtj h2 hk)
 have hlt : (k : Int) < s.n := by simpa using h7
 have hlt' : k + 1 ≤ s.n.toNat := by omega
 refine Xs ?_;refine zP (YD rfl rfl rfl rfl (by rw [List.length_map, X8]) k rfl (by omega)) ?_;refine zP (QnJ rfl rfl (QL s.n.toNat p.ack) rfl (X8 _ _).symm k rfl (QbJ (by omega))) ?_;refine zN ?_
 refine zq ?_ ?_ <;> intro h11
 ·have hy : p.ack k = true := h11
  refine QH ?_;refine zP (Kr rfl rfl rfl (by first | omega | (have := QaN p.ack k; omega))) ?_;refine QC ?_;refine zP (Kr rfl rfl rfl (by first | omega | (have := QaN p.ack k; omega))) ?_;refine zS ?_;refine Qb ?_;exact ⟨⟨k + 1, hlt'⟩, Qa rfl (XE ⟨(Y6 (by dsimp only; first | (rw [Qbt hy]; omega) | (rw [Qco hy]))), rfl, X5, rfl, trivial⟩) ⟨rfl, rfl, rfl, rfl, rfl, (Yj (Qc _)), trivial⟩, by dsimp only; omega⟩
 have hy : p.ack k = false := h11
 refine QD ?_;refine zP (Kr rfl rfl rfl (by first | omega | (have := QaN p.ack k; omega))) ?_;refine zS ?_;refine Qb ?_;exact ⟨⟨k + 1, hlt'⟩, Qa rfl (XE ⟨(Y6 (by dsimp only; first | (rw [Qbt hy]; omega) | (rw [Qco hy]))), rfl, X5, rfl, trivial⟩) ⟨rfl, rfl, rfl, rfl, rfl, (Yj (Qc _)), trivial⟩, by dsimp only; omega⟩
end Go.Proofs.YtnkkokmmeplbgaaGreat
