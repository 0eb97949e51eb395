/-
  Contracts of the reference: a node begins, learns, ends.
-/
import Derived.Test.YtnkkokmmeplbgaaGreatN6
import Derived.Test.YtnkkokmmeplbgaaGreatN5
namespace Go.Proofs.YtnkkokmmeplbgaaGreat
set_option maxRecDepth 100000
set_option maxHeartbeats 1000000
open Go.RowKit
theorem Qj6 (l : Qv) (s : Nd) (p : Pp) (hc : QB l = 0) (hw : WH s.wt (Qn l) = true) : GX Tryz.prog 92 [.ptr Qe 0] [(Qe, .var 80 (XZ l s true p.v p.g (.own (Qe + 1) s.n.toNat) p.ref)), ((Qe + 1), .arr 4 1 ((QL s.n.toNat p.ack).map Xw))] (.sl [] none) [(Qe, .var 80 (XZ l s false Qp.zero Qp.zero (.sl [] none) 0)), ((Qe + 1), .arr 4 1 ((QL s.n.toNat p.ack).map Xw))] 0 := by
 refine QK [2] Tryz.func92 rfl rfl 31 Tryz.ntmps92 (Nat.le_of_ble_eq_true rfl) ?_
 intro E hN;refine QaZ ?_;refine Xg ?_;refine Qx (QbR Qe (cs' := XZ l s false Qp.zero Qp.zero (.sl [] none) 0) rfl (by repeat (first | exact trivial | refine ⟨.inl rfl, ?_⟩ | refine ⟨.inr ⟨rfl, rfl⟩, ?_⟩))) ?_;refine zD 8 ?_;refine Xo ?_;refine zP (Qd (fcb (WL l s.wt hc) hw) rfl rfl rfl) ?_;refine Xk ?_;refine Qx (Yd 2 rfl) ?_;refine Qg ?_;change (Q7 _ _).ntt = _ ∧ _;refine Ja rfl ?_ rfl rfl rfl ⟨rfl, rfl, rfl, rfl, rfl, Yj (Qc _), trivial⟩
 rfl
theorem QgG (l : Qv) (s : Nd) (p : Pp) (hc : QB l = 0) (hl : El l 100000 s.lrn) (hv : El l 100000 p.v) (h1 : 1 ≤ s.n) (h2 : s.n ≤ 12) (hw : WH s.wt (Qn l) = true) : GX Tryz.prog 91 [.ptr Qe 0] [(Qe, .var 80 (XZ l s true p.v p.g (.own (Qe + 1) s.n.toNat) p.ref)), ((Qe + 1), .arr 4 1 ((QL s.n.toNat p.ack).map Xw))] (Y4 (W5 (QT l s p))) [(Qe, .var 80 (XZ l (QT l s p) false Qp.zero Qp.zero (.sl [] none) 0)), ((Qe + 1), .arr 4 1 ((QL s.n.toNat p.ack).map Xw))] 2 := by
 have hH : XD [(Qe, .var 80 (XZ l s true p.v p.g (.own (Qe + 1) s.n.toNat) p.ref)), ((Qe + 1), .arr 4 1 ((QL s.n.toNat p.ack).map Xw))] := W6 rfl rfl rfl rfl (Qc _)
 have hn' : (QT l s p).n = s.n := by first | exact rfl | assumption | (unfold QT; dsimp only; split <;> assumption)
 have hn1' : 1 ≤ (QT l s p).n := by first | exact rfl | assumption | (unfold QT; dsimp only; split <;> assumption)
 have hn2' : (QT l s p).n ≤ 12 := by first | exact rfl | assumption | (unfold QT; dsimp only; split <;> assumption)
 refine QK [2] Tryz.func91 rfl rfl 32 Tryz.ntmps91 (Nat.le_of_ble_eq_true rfl) ?_
 intro E hN;refine QC ?_;refine JT (⟨[(0, .ptr Qe 0)], [(Qe, .var 80 (XZ l (QT l s p) true p.v p.g (.own (Qe + 1) s.n.toNat) p.ref)), ((Qe + 1), .arr 4 1 ((QL s.n.toNat p.ack).map Xw))], 0⟩) ?_ ?_
 ·refine JB ?_;refine zD 9 ?_;refine X3 ?_;refine zP (QE hH (Y1 l s true p.v p.g (.own (Qe + 1) s.n.toNat) p.ref [((Qe + 1), .arr 4 1 ((QL s.n.toNat p.ack).map Xw))] hH hc hl hv.1) rfl rfl rfl hH.pp) ?_;refine zN ?_
  refine zq ?_ ?_ <;> intro h6
  ·have hle : QJ l s.lrn p.v = true := h6
   refine X3 ?_;refine Qb ?_;exact Qa rfl (XE trivial) ⟨(by first | (rw [QaU hle]; rfl) | (rw [QcP hle]; rfl)), rfl, rfl, rfl, rfl, (Yj (Qc _)), trivial⟩
  have hle : QJ l s.lrn p.v = false := h6
  refine QO ?_;exact Qa rfl (XE trivial) ⟨(by first | (rw [QaU hle]; rfl) | (rw [QcP hle]; rfl)), rfl, rfl, rfl, rfl, (Yj (Qc _)), trivial⟩
 refine Xo ?_;refine WE hN (W6 rfl rfl rfl rfl (Qc _)) (H := [(Qe, .var 80 (XZ l (QT l s p) true p.v p.g (.own (Qe + 1) s.n.toNat) p.ref)), ((Qe + 1), .arr 4 1 ((QL s.n.toNat p.ack).map Xw))]) (Xc _) (Qeq l (QT l s p) true p.v p.g (.own (Qe + 1) s.n.toNat) p.ref [((Qe + 1), .arr 4 1 ((QL s.n.toNat p.ack).map Xw))] (W6 rfl rfl rfl rfl (Qc _)) hn1' hn2' ⟨4, 0, 0, 0, (QT l s p).lrn⟩) (.fn _ _ _ _ rfl rfl) rfl (fun _ _ h => h) rfl rfl rfl rfl rfl rfl ?_;refine Xk ?_
 refine QN hN [(Qe, Qe), ((Qe + 1), (Qe + 1))] (Qj6 l (QT l s p) p hc hw) (.fn _ _ _ _ rfl rfl) rfl rfl rfl ⟨rfl, rfl, rfl, Wc (Qc _) rfl, rfl, YJ (Qc _), trivial⟩ rfl ⟨rfl, Ke (Qc _), trivial⟩ rfl (Yr rfl (JU (Qc _) Ys)) rfl rfl rfl rfl rfl rfl ?_;refine QS hN rfl rfl rfl (by rw [List.length_map]) rfl rfl rfl (by rw [List.length_map]; have h8 : (JS (QT l s p).self ⟨4, 0, 0, 0, (QT l s p).lrn⟩ Xv (QT l s p).n.toNat).length ≤ s.n.toNat := KM ..; refine ⟨?_, ?_⟩ <;> simp <;> omega) rfl rfl rfl rfl ?_
 refine zT ?_;refine Qx (Xl 2 1 rfl rfl (by rw [List.append_nil, List.length_map, List.length_nil]; rfl) (by rw [List.append_nil]; exact JN _) (by rw [List.append_nil]; exact Xc _) rfl) ?_;rw [List.append_nil];refine Qg ?_;change (Q7 _ _).ntt = _ ∧ _;refine Ja rfl ?_ rfl rfl rfl ⟨rfl, rfl, rfl, rfl, rfl, Yj (Qc _), trivial⟩
 rfl
theorem Qka (l : Qv) (s : Nd) (hc : QB l = 0) (h1 : 1 ≤ s.n) (h2 : s.n ≤ 12) (hs0 : 0 ≤ s.self) (hs1 : s.self < s.n) (hn0 : 0 ≤ s.num) (hn1 : s.num ≤ 1000000) (ha : El l 50000 s.acc) (hwt : El l 50000 s.wt) (hq : Kq (Xq l s) (Q1 l s) = false) : GX Tryz.prog 82 [.ptr Qe 0] [(Qe, .var 80 (XZ l s false Qp.zero Qp.zero (.sl [] none) 0))] (Y4 (JD (Xq l s) (Q1 l s) Xv)) [(Qe, .var 80 (XZ l (Xq l s) true (Q1 l s).v (Q1 l s).g (.own 0 s.n.toNat) (Q1 l s).ref)), (0, .arr 4 1 ((QL s.n.toNat (Q1 l s).ack).map Xw))] 3 := by
 have hv : El l 100000 (Qk l s.acc s.wt) := ha.join (Xb hc) (by omega) hwt
 have hkt : Qfw (Xq l s) (Q1 l s) := Qfw.ren hs0 hs1
 refine QK [2] Tryz.func82 rfl rfl 39 Tryz.ntmps82 (Nat.le_of_ble_eq_true rfl) ?_
 intro E hN;refine Jx ?_;refine zD 13 ?_;refine Xs ?_;refine zp (Q0 [] (Kn l s true Qp.zero Qp.zero (.sl [] none) 0 [] (XD.of rfl) hc (ha.up (by decide)) (hwt.up (by decide))) rfl rfl rfl rfl ⟨rfl, rfl, rfl, rfl, trivial⟩ rfl) ?_;refine Xo ?_;refine zP (Q0 [] (Qfd l s true (Qk l s.acc s.wt) Qp.zero (.sl [] none) 0 [] (XD.of rfl) hc) rfl rfl rfl rfl ⟨rfl, rfl, rfl, rfl, trivial⟩ rfl) ?_;refine YI ?_
 refine QN hN [(Qe, Qe)] (Qlz l { s with wt := Qn l } (Qg7 l s) Qp.zero hc hs0 hs1 h2 hn0 hn1) (.fn _ _ _ _ rfl rfl) rfl rfl rfl ⟨rfl, rfl, rfl, trivial⟩ rfl ⟨rfl, Ke (Qc _), trivial⟩ rfl (Yr rfl (JU (Qc _) Ys)) rfl rfl rfl rfl rfl rfl ?_;refine QC ?_
 refine QN hN [(Qe, Qe), ((Qe + 1), 0)] (QfD l (Xq l s) true (Q1 l s).v (Q1 l s).g (.own (Qe + 1) s.n.toNat) (Q1 l s).ref [((Qe + 1), .arr 4 1 ((QL s.n.toNat (Q1 l s).ack).map Xw))] (W6 rfl rfl rfl rfl (Qc _)) h1 h2) (.fn _ _ _ _ rfl rfl) rfl rfl rfl ⟨rfl, rfl, rfl, Wc (Qc _) rfl, rfl, YJ (Qc _), trivial⟩ rfl ⟨Ke (Xc _), rfl, Ke (Qc _), trivial⟩ rfl (JU (Xc _) (Yr rfl (JU (Qc _) Ys))) rfl rfl rfl rfl rfl rfl ?_;refine Xk ?_
 refine zP (Q0 [(Qe, Qe), (Qe + 1, 0)] (show GC _ _ [.ptr Qe 0] [(Qe, .var 80 (XZ l (Xq l s) true (Q1 l s).v (Q1 l s).g (.own (Qe + 1) s.n.toNat) (Q1 l s).ref)), ((Qe + 1), .arr 4 1 ((QL s.n.toNat (Q1 l s).ack).map Xw))] (bl false) [(Qe, .var 80 (XZ l (Xq l s) true (Q1 l s).v (Q1 l s).g (.own (Qe + 1) s.n.toNat) (Q1 l s).ref)), ((Qe + 1), .arr 4 1 ((QL s.n.toNat (Q1 l s).ack).map Xw))] from by have h := Qfb l (Xq l s) (Q1 l s) h1 h2 hkt; rwa [hq] at h) rfl rfl rfl rfl ⟨rfl, rfl, rfl, rfl, rfl, rfl, Xh (Qc _), Xh (Qc _), trivial⟩ rfl) ?_
 refine Xo ?_;refine Qx (Xl 2 2 rfl rfl (by rw [List.length_map]) (JN _) (Xc _) rfl) ?_;refine Qg ?_;change (Q7 _ _).ntt = _ ∧ _;refine Ja rfl ?_ rfl rfl rfl ⟨rfl, rfl, rfl, rfl, rfl, Yj (Qc _), trivial⟩
 rfl
theorem QpZ (l : Qv) (s : Nd) (hc : QB l = 0) (h1 : 1 ≤ s.n) (h2 : s.n ≤ 12) (hs0 : 0 ≤ s.self) (hs1 : s.self < s.n) (hn0 : 0 ≤ s.num) (hn1 : s.num ≤ 1000000) (ha : El l 50000 s.acc) (hwt : El l 50000 s.wt) (hl : El l 100000 s.lrn) (hq : Kq (Xq l s) (Q1 l s) = true) : GX Tryz.prog 82 [.ptr Qe 0] [(Qe, .var 80 (XZ l s false Qp.zero Qp.zero (.sl [] none) 0))] (Y4 ((JD (Xq l s) (Q1 l s) Xv) ++ W5 (QT l (Xq l s) (Q1 l s)))) [(Qe, .var 80 (XZ l (QT l (Xq l s) (Q1 l s)) false Qp.zero Qp.zero (.sl [] none) 0))] 5 := by
 have hv : El l 100000 (Qk l s.acc s.wt) := ha.join (Xb hc) (by omega) hwt
 have hkt : Qfw (Xq l s) (Q1 l s) := Qfw.ren hs0 hs1
 refine QK [2] Tryz.func82 rfl rfl 39 Tryz.ntmps82 (Nat.le_of_ble_eq_true rfl) ?_
 intro E hN;refine Jx ?_;refine zD 13 ?_;refine Xs ?_;refine zp (Q0 [] (Kn l s true Qp.zero Qp.zero (.sl [] none) 0 [] (XD.of rfl) hc (ha.up (by decide)) (hwt.up (by decide))) rfl rfl rfl rfl ⟨rfl, rfl, rfl, rfl, trivial⟩ rfl) ?_;refine Xo ?_;refine zP (Q0 [] (Qfd l s true (Qk l s.acc s.wt) Qp.zero (.sl [] none) 0 [] (XD.of rfl) hc) rfl rfl rfl rfl ⟨rfl, rfl, rfl, rfl, trivial⟩ rfl) ?_;refine YI ?_
 refine QN hN [(Qe, Qe)] (Qlz l { s with wt := Qn l } (Qg7 l s) Qp.zero hc hs0 hs1 h2 hn0 hn1) (.fn _ _ _ _ rfl rfl) rfl rfl rfl ⟨rfl, rfl, rfl, trivial⟩ rfl ⟨rfl, Ke (Qc _), trivial⟩ rfl (Yr rfl (JU (Qc _) Ys)) rfl rfl rfl rfl rfl rfl ?_;refine QC ?_
 refine QN hN [(Qe, Qe), ((Qe + 1), 0)] (QfD l (Xq l s) true (Q1 l s).v (Q1 l s).g (.own (Qe + 1) s.n.toNat) (Q1 l s).ref [((Qe + 1), .arr 4 1 ((QL s.n.toNat (Q1 l s).ack).map Xw))] (W6 rfl rfl rfl rfl (Qc _)) h1 h2) (.fn _ _ _ _ rfl rfl) rfl rfl rfl ⟨rfl, rfl, rfl, Wc (Qc _) rfl, rfl, YJ (Qc _), trivial⟩ rfl ⟨Ke (Xc _), rfl, Ke (Qc _), trivial⟩ rfl (JU (Xc _) (Yr rfl (JU (Qc _) Ys))) rfl rfl rfl rfl rfl rfl ?_;refine Xk ?_
 refine zP (Q0 [(Qe, Qe), (Qe + 1, 0)] (show GC _ _ [.ptr Qe 0] [(Qe, .var 80 (XZ l (Xq l s) true (Q1 l s).v (Q1 l s).g (.own (Qe + 1) s.n.toNat) (Q1 l s).ref)), ((Qe + 1), .arr 4 1 ((QL s.n.toNat (Q1 l s).ack).map Xw))] (bl true) [(Qe, .var 80 (XZ l (Xq l s) true (Q1 l s).v (Q1 l s).g (.own (Qe + 1) s.n.toNat) (Q1 l s).ref)), ((Qe + 1), .arr 4 1 ((QL s.n.toNat (Q1 l s).ack).map Xw))] from by have h := Qfb l (Xq l s) (Q1 l s) h1 h2 hkt; rwa [hq] at h) rfl rfl rfl rfl ⟨rfl, rfl, rfl, rfl, rfl, rfl, Xh (Qc _), Xh (Qc _), trivial⟩ rfl) ?_
 refine Qy ?_;refine QN hN [(Qe, Qe), ((Qe + 1), 0)] (QgG l (Xq l s) (Q1 l s) hc hl hv h1 h2 ((Jl _ _).2 rfl)) (.fn _ _ _ _ rfl rfl) rfl rfl rfl ⟨rfl, rfl, rfl, Wc (Qc _) rfl, rfl, YJ (Qc _), trivial⟩ rfl ⟨rfl, Ke (Qc _), trivial⟩ rfl (Yr rfl (JU (Qc _) Ys)) rfl rfl rfl rfl rfl rfl ?_
 refine QS hN rfl rfl rfl (by rw [List.length_map]) rfl rfl (JN _) (by rw [List.length_map, List.length_map]; have h8 := (show (JS (Xq l s).self ⟨1, 0, 0, (Xq l s).num, (Q1 l s).v⟩ Xv (Xq l s).n.toNat).length ≤ s.n.toNat from KM ..); have h9 := (show (W5 (QT l (Xq l s) (Q1 l s))).length ≤ s.n.toNat from Qer _); refine ⟨?_, ?_⟩ <;> omega) rfl rfl rfl rfl ?_;refine Xg ?_
 refine Qx (Xl 2 2 rfl rfl (by rw [List.length_append, List.length_map, List.length_map]) (by rw [← List.map_append]; exact JN _) (by rw [← List.map_append]; exact Xc _) rfl) ?_;refine Qg ?_;change (Q7 _ _).ntt = _ ∧ _;refine Ja rfl ?_ rfl rfl rfl ⟨rfl, rfl, rfl, trivial⟩;exact congrArg (fun z => AV.sl z none) (List.map_append (f := fun b : YB => Jw b) ..).symm
theorem QkR (l : Qv) (s : Nd) (p : Pp) (hc : QB l = 0) (h1 : 1 ≤ s.n) (h2 : s.n ≤ 12) (hs0 : 0 ≤ s.self) (hs1 : s.self < s.n) (hn0 : 0 ≤ s.num) (hn1 : s.num ≤ 1000000) (ha : El l 50000 s.acc) (hwt : El l 50000 s.wt) (hw : WH s.wt (Qn l) = false) (hq : Kq (Xq l s) (Q1 l s) = false) : GX Tryz.prog 92 [.ptr Qe 0] [(Qe, .var 80 (XZ l s true p.v p.g (.own (Qe + 1) s.n.toNat) p.ref)), ((Qe + 1), .arr 4 1 ((QL s.n.toNat p.ack).map Xw))] (Y4 (JD (Xq l s) (Q1 l s) Xv)) [(Qe, .var 80 (XZ l (Xq l s) true (Q1 l s).v (Q1 l s).g (.own 0 s.n.toNat) (Q1 l s).ref)), (0, .arr 4 1 ((QL s.n.toNat (Q1 l s).ack).map Xw)), ((Qe + 1), .arr 4 1 ((QL s.n.toNat p.ack).map Xw))] 3 := by
 refine QK [2] Tryz.func92 rfl rfl 31 Tryz.ntmps92 (Nat.le_of_ble_eq_true rfl) ?_
 intro E hN;refine QaZ ?_;refine Xg ?_;refine Qx (QbR Qe (cs' := XZ l s false Qp.zero Qp.zero (.sl [] none) 0) rfl (by repeat (first | exact trivial | refine ⟨.inl rfl, ?_⟩ | refine ⟨.inr ⟨rfl, rfl⟩, ?_⟩))) ?_;refine zD 8 ?_;refine Xo ?_;refine zP (Qd (fcb (WL l s.wt hc) hw) rfl rfl rfl) ?_;refine Xk ?_;refine QN hN [(Qe, Qe)] (Qka l s hc h1 h2 hs0 hs1 hn0 hn1 ha hwt hq) (.fn _ _ _ _ rfl rfl) rfl rfl rfl ⟨rfl, rfl, rfl, trivial⟩ rfl ⟨rfl, Ke (Qc _), trivial⟩ rfl (Yr rfl (JU (Qc _) Ys)) rfl rfl rfl rfl rfl rfl ?_
 refine zT ?_;refine Qg ?_;change (Q7 _ _).ntt = _ ∧ _;refine Ja rfl ?_ rfl rfl rfl ⟨rfl, rfl, rfl, rfl, rfl, Yj (Qc _), rfl, rfl, Yj (Qc _), trivial⟩
 rfl
theorem QmC (l : Qv) (s : Nd) (p : Pp) (hc : QB l = 0) (hl : El l 100000 s.lrn) (hv : El l 100000 p.v) (h1 : 1 ≤ s.n) (h2 : s.n ≤ 12) (hs0 : 0 ≤ s.self) (hs1 : s.self < s.n) (hn0 : 0 ≤ s.num) (hn1 : s.num ≤ 1000000) (ha : El l 50000 s.acc) (hwt : El l 50000 s.wt) (hw : WH s.wt (Qn l) = false) (hq : Kq (Xq l (QT l s p)) (Q1 l (QT l s p)) = false) : GX Tryz.prog 91 [.ptr Qe 0] [(Qe, .var 80 (XZ l s true p.v p.g (.own (Qe + 1) s.n.toNat) p.ref)), ((Qe + 1), .arr 4 1 ((QL s.n.toNat p.ack).map Xw))] (Y4 (W5 (QT l s p) ++ (JD (Xq l (QT l s p)) (Q1 l (QT l s p)) Xv))) [(Qe, .var 80 (XZ l (Xq l (QT l s p)) true (Q1 l (QT l s p)).v (Q1 l (QT l s p)).g (.own 2 s.n.toNat) (Q1 l (QT l s p)).ref)), (2, .arr 4 1 ((QL s.n.toNat (Q1 l (QT l s p)).ack).map Xw)), ((Qe + 1), .arr 4 1 ((QL s.n.toNat p.ack).map Xw))] 5 := by
 have hH : XD [(Qe, .var 80 (XZ l s true p.v p.g (.own (Qe + 1) s.n.toNat) p.ref)), ((Qe + 1), .arr 4 1 ((QL s.n.toNat p.ack).map Xw))] := W6 rfl rfl rfl rfl (Qc _)
 have hn' : (QT l s p).n = s.n := by first | exact rfl | assumption | (unfold QT; dsimp only; split <;> assumption)
 have hn1' : 1 ≤ (QT l s p).n := by first | exact rfl | assumption | (unfold QT; dsimp only; split <;> assumption)
 have hn2' : (QT l s p).n ≤ 12 := by first | exact rfl | assumption | (unfold QT; dsimp only; split <;> assumption)
 refine QK [2] Tryz.func91 rfl rfl 32 Tryz.ntmps91 (Nat.le_of_ble_eq_true rfl) ?_
 intro E hN;refine QC ?_;refine JT (⟨[(0, .ptr Qe 0)], [(Qe, .var 80 (XZ l (QT l s p) true p.v p.g (.own (Qe + 1) s.n.toNat) p.ref)), ((Qe + 1), .arr 4 1 ((QL s.n.toNat p.ack).map Xw))], 0⟩) ?_ ?_
 ·refine JB ?_;refine zD 9 ?_;refine X3 ?_;refine zP (QE hH (Y1 l s true p.v p.g (.own (Qe + 1) s.n.toNat) p.ref [((Qe + 1), .arr 4 1 ((QL s.n.toNat p.ack).map Xw))] hH hc hl hv.1) rfl rfl rfl hH.pp) ?_;refine zN ?_
  refine zq ?_ ?_ <;> intro h6
  ·have hle : QJ l s.lrn p.v = true := h6
   refine X3 ?_;refine Qb ?_;exact Qa rfl (XE trivial) ⟨(by first | (rw [QaU hle]; rfl) | (rw [QcP hle]; rfl)), rfl, rfl, rfl, rfl, (Yj (Qc _)), trivial⟩
  have hle : QJ l s.lrn p.v = false := h6
  refine QO ?_;exact Qa rfl (XE trivial) ⟨(by first | (rw [QaU hle]; rfl) | (rw [QcP hle]; rfl)), rfl, rfl, rfl, rfl, (Yj (Qc _)), trivial⟩
 refine Xo ?_;refine WE hN (W6 rfl rfl rfl rfl (Qc _)) (H := [(Qe, .var 80 (XZ l (QT l s p) true p.v p.g (.own (Qe + 1) s.n.toNat) p.ref)), ((Qe + 1), .arr 4 1 ((QL s.n.toNat p.ack).map Xw))]) (Xc _) (Qeq l (QT l s p) true p.v p.g (.own (Qe + 1) s.n.toNat) p.ref [((Qe + 1), .arr 4 1 ((QL s.n.toNat p.ack).map Xw))] (W6 rfl rfl rfl rfl (Qc _)) hn1' hn2' ⟨4, 0, 0, 0, (QT l s p).lrn⟩) (.fn _ _ _ _ rfl rfl) rfl (fun _ _ h => h) rfl rfl rfl rfl rfl rfl ?_;refine Xk ?_
 refine QN hN [(Qe, Qe), ((Qe + 1), (Qe + 1))] (QkR l (QT l s p) p hc h1 h2 hs0 hs1 hn0 hn1 ha hwt hw hq) (.fn _ _ _ _ rfl rfl) rfl rfl rfl ⟨rfl, rfl, rfl, Wc (Qc _) rfl, rfl, YJ (Qc _), trivial⟩ rfl ⟨rfl, Ke (Qc _), Ke (Qc _), trivial⟩ rfl (Yr rfl (JU (Qc _) (JU (Qc _) Ys))) rfl rfl rfl rfl rfl rfl ?_
 refine QS hN rfl rfl rfl (by rw [List.length_map]) rfl rfl (JN _) (by rw [List.length_map, List.length_map]; have h8 := (show (JS (QT l s p).self ⟨4, 0, 0, 0, (QT l s p).lrn⟩ Xv (QT l s p).n.toNat).length ≤ s.n.toNat from KM ..); have h9 := (show (JD (Xq l (QT l s p)) (Q1 l (QT l s p)) Xv).length ≤ s.n.toNat from Qdk ..); refine ⟨?_, ?_⟩ <;> omega) rfl rfl rfl rfl ?_;refine zT ?_
 refine Qx (Xl 2 1 rfl rfl (by rw [List.length_append, List.length_map, List.length_map]) (by rw [← List.map_append]; exact JN _) (by rw [← List.map_append]; exact Xc _) rfl) ?_;refine Qg ?_;change (Q7 _ _).ntt = _ ∧ _;refine Ja rfl ?_ rfl rfl rfl ⟨rfl, rfl, rfl, rfl, rfl, Yj (Qc _), rfl, rfl, Yj (Qc _), trivial⟩;exact congrArg (fun z => AV.sl z none) (List.map_append (f := fun b : YB => Jw b) ..).symm
theorem Qng (l : Qv) (s : Nd) (has : Bool) (v0 g : Qp) (ak : AV) (rf : Int) (R : List (Nat × Qs)) (hH : XD ((Qe, .var 80 (XZ l s has v0 g ak rf)) :: R)) (v : Qp) (hv : XR l v = false) : GC Tryz.prog 41 [.ptr Qe 0, .agg (QF v)] ((Qe, .var 80 (XZ l s has v0 g ak rf)) :: R) (.tup [.sl [] none, i64 4]) ((Qe, .var 80 (XZ l s has v0 g ak rf)) :: R) := by
 refine XA [4, 5] Tryz.func41 rfl rfl 29 Tryz.ntmps41 (Nat.le_of_ble_eq_true rfl) ?_
 intro E hN;refine Xo ?_;refine zD 6 ?_;refine Qy ?_;refine zp (Qd (fcb (KD l v) hv) rfl rfl rfl) ?_;refine Xo ?_;refine Qg ?_;change (Q7 _ _).fzt = some _ ∧ _;refine Yt hH hH.pp rfl ?_
 rfl
theorem Qtb (l : Qv) (s : Nd) (p : Pp) (v : Qp) (hc : QB l = 0) (hw : El l 40000 s.wt) (hv : XR l v = true) (he : El l 1000 v) : GX Tryz.prog 41 [.ptr Qe 0, .agg (QF v)] [(Qe, .var 80 (XZ l s true p.v p.g (.own (Qe + 1) s.n.toNat) p.ref)), ((Qe + 1), .arr 4 1 ((QL s.n.toNat p.ack).map Xw))] (.tup [.sl [] none, i64 0]) [(Qe, .var 80 (XZ l { s with wt := Qk l s.wt v } true p.v p.g (.own (Qe + 1) s.n.toNat) p.ref)), ((Qe + 1), .arr 4 1 ((QL s.n.toNat p.ack).map Xw))] 1 := by
 have hH : XD [(Qe, .var 80 (XZ l s true p.v p.g (.own (Qe + 1) s.n.toNat) p.ref)), ((Qe + 1), .arr 4 1 ((QL s.n.toNat p.ack).map Xw))] := W6 rfl rfl rfl rfl (Qc _)
 refine QK [4, 5] Tryz.func41 rfl rfl 29 Tryz.ntmps41 (Nat.le_of_ble_eq_true rfl) ?_
 intro E hN;refine Xo ?_;refine zD 6 ?_;refine Qy ?_;refine zp (Qd (fcb (KD l v) hv) rfl rfl rfl) ?_;refine Qy ?_;refine zD 10 ?_;refine Xg ?_;refine zp (QE hH (Kn l s true p.v p.g (.own (Qe + 1) s.n.toNat) p.ref [((Qe + 1), .arr 4 1 ((QL s.n.toNat p.ack).map Xw))] hH hc (hw.up (by decide)) (he.up (by decide))) rfl rfl rfl hH.pp) ?_;refine Wn ?_;refine Qx (Yd 4 rfl) ?_;refine Qg ?_;change (Q7 _ _).ntt = _ ∧ _;refine Ja rfl ?_ rfl rfl rfl ⟨rfl, rfl, rfl, rfl, rfl, Yj (Qc _), trivial⟩
 rfl
theorem QtP (l : Qv) (s : Nd) (v : Qp) (hc : QB l = 0) (h1 : 1 ≤ s.n) (h2 : s.n ≤ 12) (hs0 : 0 ≤ s.self) (hs1 : s.self < s.n) (hn0 : 0 ≤ s.num) (hn1 : s.num ≤ 1000000) (ha : El l 50000 s.acc) (hw : El l 40000 s.wt) (hv : XR l v = true) (he : El l 1000 v) (hq : Kq (Xq l { s with wt := Qk l s.wt v }) (Q1 l { s with wt := Qk l s.wt v }) = false) : GX Tryz.prog 41 [.ptr Qe 0, .agg (QF v)] [(Qe, .var 80 (XZ l s false Qp.zero Qp.zero (.sl [] none) 0))] (.tup [(Y4 (JD (Xq l { s with wt := Qk l s.wt v }) (Q1 l { s with wt := Qk l s.wt v }) Xv)), i64 0]) [(Qe, .var 80 (XZ l (Xq l { s with wt := Qk l s.wt v }) true (Q1 l { s with wt := Qk l s.wt v }).v (Q1 l { s with wt := Qk l s.wt v }).g (.own 1 s.n.toNat) (Q1 l { s with wt := Qk l s.wt v }).ref)), (1, .arr 4 1 ((QL s.n.toNat (Q1 l { s with wt := Qk l s.wt v }).ack).map Xw))] 4 := by
 have hH : XD [(Qe, .var 80 (XZ l s false Qp.zero Qp.zero (.sl [] none) 0))] := XD.of rfl
 have hj : El l 50000 (Qk l s.wt v) := (hw.join (Xb hc) (by omega) he).up (by decide)
 refine QK [4, 5] Tryz.func41 rfl rfl 29 Tryz.ntmps41 (Nat.le_of_ble_eq_true rfl) ?_
 intro E hN;refine Xo ?_;refine zD 6 ?_;refine Qy ?_;refine zp (Qd (fcb (KD l v) hv) rfl rfl rfl) ?_;refine Qy ?_;refine zD 10 ?_;refine Xg ?_;refine zp (QE hH (Kn l s false Qp.zero Qp.zero (.sl [] none) 0 [] hH hc (hw.up (by decide)) (he.up (by decide))) rfl rfl rfl hH.pp) ?_;refine Qd8 ?_
 refine QN hN [(Qe, Qe)] (Qka l { s with wt := Qk l s.wt v } hc h1 h2 hs0 hs1 hn0 hn1 ha hj hq) (.fn _ _ _ _ rfl rfl) rfl rfl rfl ⟨rfl, rfl, rfl, trivial⟩ rfl ⟨rfl, Ke (Qc _), trivial⟩ rfl (Yr rfl (JU (Qc _) Ys)) rfl rfl rfl rfl rfl rfl ?_;refine QD ?_;refine Qg ?_;change (Q7 _ _).ntt = _ ∧ _;refine Ja rfl ?_ rfl rfl rfl ⟨rfl, rfl, rfl, rfl, rfl, Yj (Qc _), trivial⟩
 rfl
theorem Qsf (l : Qv) (s : Nd) (v : Qp) (hc : QB l = 0) (h1 : 1 ≤ s.n) (h2 : s.n ≤ 12) (hs0 : 0 ≤ s.self) (hs1 : s.self < s.n) (hn0 : 0 ≤ s.num) (hn1 : s.num ≤ 1000000) (ha : El l 50000 s.acc) (hw : El l 40000 s.wt) (hv : XR l v = true) (he : El l 1000 v) (hl : El l 100000 s.lrn) (hq : Kq (Xq l { s with wt := Qk l s.wt v }) (Q1 l { s with wt := Qk l s.wt v }) = true) : GX Tryz.prog 41 [.ptr Qe 0, .agg (QF v)] [(Qe, .var 80 (XZ l s false Qp.zero Qp.zero (.sl [] none) 0))] (.tup [(Y4 (JD (Xq l { s with wt := Qk l s.wt v }) (Q1 l { s with wt := Qk l s.wt v }) Xv ++ W5 (QT l (Xq l { s with wt := Qk l s.wt v }) (Q1 l { s with wt := Qk l s.wt v })))), i64 0]) [(Qe, .var 80 (XZ l (QT l (Xq l { s with wt := Qk l s.wt v }) (Q1 l { s with wt := Qk l s.wt v })) false Qp.zero Qp.zero (.sl [] none) 0))] 6 := by
 have hH : XD [(Qe, .var 80 (XZ l s false Qp.zero Qp.zero (.sl [] none) 0))] := XD.of rfl
 have hj : El l 50000 (Qk l s.wt v) := (hw.join (Xb hc) (by omega) he).up (by decide)
 refine QK [4, 5] Tryz.func41 rfl rfl 29 Tryz.ntmps41 (Nat.le_of_ble_eq_true rfl) ?_
 intro E hN;refine Xo ?_;refine zD 6 ?_;refine Qy ?_;refine zp (Qd (fcb (KD l v) hv) rfl rfl rfl) ?_;refine Qy ?_;refine zD 10 ?_;refine Xg ?_;refine zp (QE hH (Kn l s false Qp.zero Qp.zero (.sl [] none) 0 [] hH hc (hw.up (by decide)) (he.up (by decide))) rfl rfl rfl hH.pp) ?_;refine Qd8 ?_;refine QN hN [(Qe, Qe)] (QpZ l { s with wt := Qk l s.wt v } hc h1 h2 hs0 hs1 hn0 hn1 ha hj hl hq) (.fn _ _ _ _ rfl rfl) rfl rfl rfl ⟨rfl, rfl, rfl, trivial⟩ rfl ⟨rfl, trivial⟩ rfl (Yr rfl Ys) rfl rfl rfl rfl rfl rfl ?_;refine QD ?_;refine Qg ?_
 change (Q7 _ _).ntt = _ ∧ _;refine Ja rfl ?_ rfl rfl rfl ⟨rfl, rfl, rfl, trivial⟩
 rfl
theorem Y2 (l : Qv) (s : Nd) (has : Bool) (v g : Qp) (ak : AV) (rf : Int) (R : List (Nat × Qs)) (hH : XD ((Qe, .var 80 (XZ l s has v g ak rf)) :: R)) (m : YB) : GC Tryz.prog 88 [.ptr Qe 0, .agg (Jw m)] ((Qe, .var 80 (XZ l s has v g ak rf)) :: R) (i64 (J5 l s m)) ((Qe, .var 80 (XZ l s has v g ak rf)) :: R) := by
 refine XA [4] Tryz.func88 rfl rfl 79 Tryz.ntmps88 (Nat.le_of_ble_eq_true rfl) ?_
 intro E hN;refine Xk ?_;refine JT (⟨[(0, .ptr Qe 0), (3, .ptr 0 0), (44, bl (cB1 m || cB2 s m))], (0, .var 54 (Jw m)) :: ((Qe, .var 80 (XZ l s has v g ak rf)) :: R), 1⟩) ?_ ?_
 ·refine zD 39 ?_;refine QC ?_
  refine zd 8 ?_ ?_ <;> intro h6
  ·refine QaZ ?_;refine Jx ?_;refine Qb ?_;exact QI (pre := [(0, _)]) hH rfl rfl ⟨rfl, rfl, rfl, rfl, (WG (by simp_all [cB1, cB2] <;> first | (intros; omega) | (rw [Bool.eq_iff_iff]; simp; omega))), rfl, trivial⟩ ⟨rfl, rfl, rfl, trivial⟩ hH.pp
  refine Qy ?_
  refine zd 13 ?_ ?_ <;> intro h9
  ·refine QaZ ?_;refine Xg ?_;refine Qb ?_;exact QI (pre := [(0, _)]) hH rfl rfl ⟨rfl, rfl, rfl, rfl, (WG (by simp_all [cB1, cB2] <;> first | (intros; omega) | (rw [Bool.eq_iff_iff]; simp; omega))), rfl, trivial⟩ ⟨rfl, rfl, rfl, trivial⟩ hH.pp
  refine Qy ?_
  refine zd 18 ?_ ?_ <;> intro h12
  ·refine QaZ ?_;refine QH ?_;refine Qb ?_;exact QI (pre := [(0, _)]) hH rfl rfl ⟨rfl, rfl, rfl, rfl, (WG (by simp_all [cB1, cB2] <;> first | (intros; omega) | (rw [Bool.eq_iff_iff]; simp; omega))), rfl, trivial⟩ ⟨rfl, rfl, rfl, trivial⟩ hH.pp
  refine X3 ?_
  refine zd 27 ?_ ?_ <;> intro h17
  ·refine Qd8 ?_;refine Qb ?_;exact QI (pre := [(0, _)]) hH rfl rfl ⟨rfl, rfl, rfl, rfl, (WG (by simp_all [cB1, cB2] <;> first | (intros; omega) | (rw [Bool.eq_iff_iff]; simp; omega))), rfl, trivial⟩ ⟨rfl, rfl, rfl, trivial⟩ hH.pp
  refine X3 ?_
  refine zd 36 ?_ ?_ <;> intro h22
  ·refine Xo ?_;refine Qb ?_;exact QI (pre := [(0, _)]) hH rfl rfl ⟨rfl, rfl, rfl, rfl, (WG (by simp_all [cB1, cB2] <;> first | (intros; omega) | (rw [Bool.eq_iff_iff]; simp; omega))), rfl, trivial⟩ ⟨rfl, rfl, rfl, trivial⟩ hH.pp
  refine Xo ?_;refine Qb ?_;exact QI (pre := [(0, _)]) hH rfl rfl ⟨rfl, rfl, rfl, rfl, (WG (by simp_all [cB1, cB2] <;> first | (intros; omega) | (rw [Bool.eq_iff_iff]; simp; omega))), rfl, trivial⟩ ⟨rfl, rfl, rfl, trivial⟩ hH.pp
 refine zq ?_ ?_ <;> intro h30
 ·refine QC ?_;refine Qg ?_;change (Q7 _ _).fzt = some _ ∧ _;refine Yt hH hH.pp rfl ?_
  simp_all [J5, QcM]
 refine QH ?_;refine JT (⟨[(0, .ptr Qe 0), (3, .ptr 0 0), (62, bl (cB3 m || cB4 m))], (0, .var 54 (Jw m)) :: ((Qe, .var 80 (XZ l s has v g ak rf)) :: R), 1⟩) ?_ ?_
 ·refine Qy ?_
  refine zc 48 ?_ ?_ <;> intro h33
  rotate_left
  ·refine X3 ?_
   refine zc 57 ?_ ?_ <;> intro h45
   ·refine Qy ?_;refine Qb ?_;exact QI (pre := [(0, _)]) hH rfl rfl ⟨rfl, rfl, rfl, rfl, (WG (by simp_all [cB3, cB4] <;> first | (intros; omega) | (rw [Bool.eq_iff_iff]; simp; omega))), rfl, trivial⟩ ⟨rfl, rfl, rfl, trivial⟩ hH.pp
   refine Qy ?_;refine Qb ?_;exact QI (pre := [(0, _)]) hH rfl rfl ⟨rfl, rfl, rfl, rfl, (WG (by simp_all [cB3, cB4] <;> first | (intros; omega) | (rw [Bool.eq_iff_iff]; simp; omega))), rfl, trivial⟩ ⟨rfl, rfl, rfl, trivial⟩ hH.pp
  refine Qy ?_
  refine zc 53 ?_ ?_ <;> intro h36
  ·refine X3 ?_;refine Qb ?_;exact QI (pre := [(0, _)]) hH rfl rfl ⟨rfl, rfl, rfl, rfl, (WG (by simp_all [cB3, cB4] <;> first | (intros; omega) | (rw [Bool.eq_iff_iff]; simp; omega))), rfl, trivial⟩ ⟨rfl, rfl, rfl, trivial⟩ hH.pp
  refine QC ?_
  refine zc 57 ?_ ?_ <;> intro h39
  ·refine QD ?_;refine uP (X0 h36) (XF rfl rfl h39 rfl) ?_;refine JB ?_;refine Qb ?_;exact QI (pre := [(0, _)]) hH rfl rfl ⟨rfl, rfl, rfl, rfl, (WG (by simp_all [cB3, cB4] <;> first | (intros; omega) | (rw [Bool.eq_iff_iff]; simp; omega))), rfl, trivial⟩ ⟨rfl, rfl, rfl, trivial⟩ hH.pp
  refine QD ?_;refine uP (X0 h36) (Xx rfl rfl h39 rfl) ?_;refine JB ?_;refine Qb ?_;exact QI (pre := [(0, _)]) hH rfl rfl ⟨rfl, rfl, rfl, rfl, (WG (by simp_all [cB3, cB4] <;> first | (intros; omega) | (rw [Bool.eq_iff_iff]; simp; omega))), rfl, trivial⟩ ⟨rfl, rfl, rfl, trivial⟩ hH.pp
 refine zq ?_ ?_ <;> intro h51
 ·refine QC ?_;refine Qg ?_;change (Q7 _ _).fzt = some _ ∧ _;refine Yt hH hH.pp rfl ?_
  simp_all [J5, QcM]
 refine Xo ?_
 refine zq ?_ ?_ <;> intro h54
 ·refine Xk ?_;refine zP (Qd (Jr m.v Qp.zero) rfl rfl rfl) ?_;refine QH ?_
  refine zq ?_ ?_ <;> intro h58
  ·refine QC ?_;refine Qg ?_;change (Q7 _ _).fzt = some _ ∧ _;refine Yt hH hH.pp rfl ?_
   simp_all [J5, QcM, cB5, cB6]
  refine Qy ?_;refine Qg ?_;change (Q7 _ _).fzt = some _ ∧ _;refine Yt hH hH.pp rfl ?_
  simp_all [J5, QcM, cB5, cB6]
 refine QD ?_;refine zD 7 ?_;refine Xk ?_;refine zp (Qd (KD l m.v) rfl rfl rfl) ?_;refine QH ?_
 refine zq ?_ ?_ <;> intro h63
 ·refine QC ?_;refine Qg ?_;change (Q7 _ _).fzt = some _ ∧ _;refine Yt hH hH.pp rfl ?_
  simp_all [J5, QcM, cB5, cB6]
 refine Qy ?_;refine Qg ?_;change (Q7 _ _).fzt = some _ ∧ _;refine Yt hH hH.pp rfl ?_
 simp_all [J5, QcM, cB5, cB6]
end Go.Proofs.YtnkkokmmeplbgaaGreat
