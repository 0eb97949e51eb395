/-
  Contracts: a node, the other cases: begin alone, end into a 
-/
import Derived.Test.YtnkkokmmeplbgaaGreatN3
import Derived.Test.YtnkkokmmeplbgaaGreatA13
namespace Go.Proofs.YtnkkokmmeplbgaaGreat
set_option maxRecDepth 100000
set_option maxHeartbeats 1000000
open Go.RowKit
theorem QsL (l : Qv) (s : Nd) (hc : QB l = 0) (h1 : 1 ≤ s.n) (h2 : s.n ≤ 12) (hs0 : 0 ≤ s.self) (hs1 : s.self < 12) (hn0 : 0 ≤ s.num) (hn1 : s.num ≤ 1000000) (ha : El l 50000 s.acc) (hwt : El l 50000 s.wt) (hl : El l 100000 s.lrn) (hq : Kq (Xq l s) (Q1 l s) = true) : GX Tryz.prog 80 [.ptr Qe 0] [(Qe, .var 131 (Xy l s Jv))] (Y4 (JD (Xq l s) (Q1 l s) Xv ++ W5 (QT l (Xq l s) (Q1 l s)))) [(Qe, .var 131 (Xy l (QT l (Xq l s) (Q1 l s)) Jv))] 5 := by
 have hH : XD [(Qe, .var 131 (Xy l s Jv))] := XD.of rfl
 have hv : El l 100000 (Qk l s.acc s.wt) := ha.join (Xb hc) (by omega) hwt
 have cPl := Wt l s Jv [] hH hc (ha.up (by decide)) (hwt.up (by decide))
 have hln : (QT l (Xq l s) (Q1 l s)).n = s.n := rfl
 refine QK [2] Tryz.func80 rfl rfl 33 Tryz.ntmps80 (Nat.le_of_ble_eq_true rfl) ?_
 intro E hN;refine Qy ?_;refine Qdz [0, 1, 2, 3, 4, 5, 6, 7, 8, 9, 10, 11, 12] 13 [14, 15, 16] rfl (by kernel_rfl) (by kernel_rfl) ?_;refine Xs ?_;refine zp (J7 rfl rfl rfl rfl (by exact rfl) (by decide) (by decide) (QaI s.acc s.wt)) ?_;refine zp (QE hH cPl rfl rfl rfl hH.pp) ?_;refine zp (Kf rfl rfl rfl) ?_;change FK _ _ _ _ _ _;refine Quc hN rfl rfl rfl (fun _ => rfl) rfl rfl rfl rfl rfl ?_;change Q3 _ _ _ _ _ _;refine Qy ?_
 refine Qx (QbR 0 (cs' := Jk (Qg7 l s)) rfl (by repeat (first | exact trivial | refine ⟨.inl rfl, ?_⟩ | refine ⟨.inr ⟨rfl, rfl⟩, ?_⟩))) ?_;refine QD ?_;refine zP (Q0 [(Qe, Qe), (Qe + 1, 0)] (Qaq l s (.ptr (Qe + 1) 0) [((Qe + 1), .var 137 (Jk (Qg7 l s)))] (XD.of rfl) hc) rfl rfl rfl rfl ⟨rfl, rfl, rfl, rfl, rfl, rfl, rfl, rfl, trivial⟩ rfl) ?_;refine Xg ?_
 refine QN hN [(Qe, Qe), ((Qe + 1), 0)] (QjL l { s with wt := Qn l } (Qg7 l s) hc hs0 hs1 hn0 hn1) (.fn _ _ _ _ rfl rfl) rfl rfl rfl ⟨rfl, rfl, rfl, rfl, rfl, rfl, trivial⟩ rfl ⟨rfl, rfl, trivial⟩ rfl rfl rfl rfl rfl rfl rfl rfl ?_;refine QC ?_
 refine QN hN [(Qe, Qe), ((Qe + 1), 0)] (Qex l (Xq l s) (Q1 l s) [] (XD.of rfl) hc h1 h2 hv Xv 98 [] (fun i _ => QeM (XD.of rfl) (i : Int)) rfl rfl rfl) (.fn _ _ _ _ rfl rfl) rfl rfl rfl ⟨rfl, rfl, rfl, rfl, rfl, rfl, trivial⟩ rfl ⟨Qi8 (Xc _), rfl, rfl, trivial⟩ rfl (Qhg (Xc _) rfl rfl) rfl rfl rfl rfl rfl rfl ?_;refine Xk ?_
 refine QN hN [(Qe, Qe), ((Qe + 1), 0)] (QnP l (Xq l s) (Q1 l s) hc h1 h2 hl hv hq ((Jl _ _).2 rfl)) (.fn _ _ _ _ rfl rfl) rfl rfl rfl ⟨rfl, rfl, rfl, rfl, rfl, rfl, trivial⟩ rfl ⟨rfl, rfl, trivial⟩ rfl rfl rfl rfl rfl rfl rfl rfl ?_
 refine QS hN rfl rfl rfl (by rw [List.length_map]) rfl rfl (JN _) (by rw [List.length_map, List.length_map]; have h8 := (show (JD (Xq l s) (Q1 l s) Xv).length ≤ s.n.toNat from Qdk ..); have h9 := (show (W5 (QT l (Xq l s) (Q1 l s))).length ≤ s.n.toNat from hln ▸ Qer _); refine ⟨?_, ?_⟩ <;> omega) rfl rfl rfl rfl ?_;refine zT ?_;refine Qx (Xl 2 2 rfl rfl (by rw [List.length_append, List.length_map, List.length_map]) (by rw [← List.map_append]; exact JN _) (by rw [← List.map_append]; exact Xc _) rfl) ?_;refine Qg ?_
 change (Q7 _ _).ntt = _ ∧ _;refine Ja rfl ?_ rfl rfl rfl ⟨rfl, rfl, rfl, trivial⟩;exact congrArg (fun z => AV.sl z none) (List.map_append (f := fun b : YB => Jw b) ..).symm
theorem Qnm (l : Qv) (s : Nd) (p : Pp) (hc : QB l = 0) (h1 : 2 ≤ s.n) (h2 : s.n ≤ 12) (hs0 : 0 ≤ s.self) (hs1 : s.self < 12) (hn0 : 0 ≤ s.num) (hn1 : s.num ≤ 1000000) (ha : El l 50000 s.acc) (hwt : El l 50000 s.wt) (hw : WH s.wt (Qn l) = false) : GX Tryz.prog 87 [.ptr Qe 0] [(Qe, .var 131 (Xy l s (.ptr (Qe + 1) 0))), ((Qe + 1), .var 137 (Jk p))] (Y4 (JD (Xq l s) (Q1 l s) Xv)) [(Qe, .var 131 (Xy l (Xq l s) (.ptr 0 0))), (0, .var 137 (Jk (Q1 l s))), ((Qe + 1), .var 137 (Jk p))] 3 := by
 refine QK [2] Tryz.func87 rfl rfl 17 Tryz.ntmps87 (Nat.le_of_ble_eq_true rfl) ?_
 intro E hN;refine WV ?_;refine zD 8 ?_;refine Xo ?_;refine zP (Qd (fcb (QdB l s.wt hc) hw) rfl rfl rfl) ?_;refine Xk ?_;refine QN hN [(Qe, Qe)] (Qn4 l s hc h1 h2 hs0 hs1 hn0 hn1 ha hwt) (.fn _ _ _ _ rfl rfl) rfl rfl rfl ⟨rfl, rfl, rfl, trivial⟩ rfl ⟨rfl, rfl, trivial⟩ rfl rfl rfl rfl rfl rfl rfl rfl ?_;refine zT ?_;refine Qg ?_;change (Q7 _ _).ntt = _ ∧ _;refine Ja rfl ?_ rfl rfl rfl ⟨rfl, rfl, rfl, rfl, rfl, rfl, rfl, rfl, rfl, trivial⟩
 rfl
theorem Qtl (l : Qv) (s : Nd) (p : Pp) (hc : QB l = 0) (h1 : 2 ≤ s.n) (h2 : s.n ≤ 12) (hs0 : 0 ≤ s.self) (hs1 : s.self < 12) (hn0 : 0 ≤ s.num) (hn1 : s.num ≤ 1000000) (ha : El l 50000 s.acc) (hwt : El l 50000 s.wt) (hl : El l 100000 s.lrn) (hv : El l 100000 p.v) (hq : Kq s p = true) (hw : WH s.wt (Qn l) = false) : GX Tryz.prog 86 [.ptr Qe 0] [(Qe, .var 131 (Xy l s (.ptr (Qe + 1) 0))), ((Qe + 1), .var 137 (Jk p))] (Y4 (W5 (QT l s p) ++ JD (Xq l (QT l s p)) (Q1 l (QT l s p)) Xv)) [(Qe, .var 131 (Xy l (Xq l (QT l s p)) (.ptr 2 0))), (2, .var 137 (Jk (Q1 l (QT l s p)))), ((Qe + 1), .var 137 (Jk p))] 5 := by
 have hH : XD [(Qe, .var 131 (Xy l s (.ptr (Qe + 1) 0))), ((Qe + 1), .var 137 (Jk p))] := XD.of rfl
 have hn' : (QT l s p).n = s.n := by first | exact rfl | assumption | (unfold QT; dsimp only; split <;> assumption)
 have hl' : El l 100000 (QT l s p).lrn := by first | exact rfl | assumption | (unfold QT; dsimp only; split <;> assumption)
 have hw' : WH (QT l s p).wt (Qn l) = false := by first | exact rfl | assumption | (unfold QT; dsimp only; split <;> assumption)
 have hn1' : 2 ≤ (QT l s p).n := by first | exact rfl | assumption | (unfold QT; dsimp only; split <;> assumption)
 have hn2' : (QT l s p).n ≤ 12 := by first | exact rfl | assumption | (unfold QT; dsimp only; split <;> assumption)
 have hs0' : 0 ≤ (QT l s p).self := by first | exact rfl | assumption | (unfold QT; dsimp only; split <;> assumption)
 have hs1' : (QT l s p).self < 12 := by first | exact rfl | assumption | (unfold QT; dsimp only; split <;> assumption)
 have hm0' : 0 ≤ (QT l s p).num := by first | exact rfl | assumption | (unfold QT; dsimp only; split <;> assumption)
 have hm1' : (QT l s p).num ≤ 1000000 := by first | exact rfl | assumption | (unfold QT; dsimp only; split <;> assumption)
 have ha' : El l 50000 (QT l s p).acc := by first | exact rfl | assumption | (unfold QT; dsimp only; split <;> assumption)
 have hwt' : El l 50000 (QT l s p).wt := by first | exact rfl | assumption | (unfold QT; dsimp only; split <;> assumption)
 have h1' : 1 ≤ s.n := by omega
 refine QK [2] Tryz.func86 rfl rfl 60 Tryz.ntmps86 (Nat.le_of_ble_eq_true rfl) ?_
 intro E hN;refine QjC ?_;refine Qm (fun x : {k : Nat // k ≤ 12} => ⟨[(0, .ptr Qe 0), (3, i64 (WD p.ack x.1 : Nat)), (13, .agg (QtN p)), (14, i64 (x.1 : Nat))], [(Qe, .var 131 (Xy l s (.ptr (Qe + 1) 0))), ((Qe + 1), .var 137 (Jk p))], 0⟩) (fun x => 12 - x.1) (⟨0, Nat.zero_le _⟩) ?_ ?_
 ·exact Qa rfl (YO trivial) ⟨rfl, rfl, rfl, rfl, rfl, rfl, trivial⟩
 rintro ⟨k, hk⟩;dsimp only;refine Qy ?_
 refine zq ?_ ?_ <;> intro h10
 ·have hlt : k < 12 := Int.ofNat_lt.1 (by simpa using h10)
  refine Qy ?_;refine zP (Qm6 rfl rfl rfl k rfl hlt rfl (Qjt hlt)) ?_;refine Xk ?_
  refine zq ?_ ?_ <;> intro h11
  ·have hy : p.ack k = true := h11
   refine QH ?_;refine zP (Kr rfl rfl rfl (by first | omega | (have := QaN p.ack k; omega))) ?_;refine QD ?_;refine zP (Kr rfl rfl rfl (by first | omega | (have := QaN p.ack k; omega))) ?_;refine zM ?_;refine Qb ?_;exact ⟨⟨k + 1, hlt⟩, Qa rfl (XE ⟨(Y6 (by dsimp only; first | (rw [Qbt hy]; omega) | (rw [Qco hy]))), rfl, rfl, rfl, X5, rfl, trivial⟩) ⟨rfl, rfl, rfl, rfl, rfl, rfl, trivial⟩, by dsimp only; omega⟩
  have hy : p.ack k = false := h11
  refine QH ?_;refine zP (Kr rfl rfl rfl (by first | omega | (have := QaN p.ack k; omega))) ?_;refine zM ?_;refine Qb ?_;exact ⟨⟨k + 1, hlt⟩, Qa rfl (XE ⟨(Y6 (by dsimp only; first | (rw [Qbt hy]; omega) | (rw [Qco hy]))), rfl, rfl, rfl, X5, rfl, trivial⟩) ⟨rfl, rfl, rfl, rfl, rfl, rfl, trivial⟩, by dsimp only; omega⟩
 have hge : ¬ (k : Int) < 12 := by simpa using h10
 obtain rfl : k = 12 := by omega
 refine X3 ?_;refine zP (Qd (Qgz s.n h1' h2) rfl rfl rfl) ?_;refine zP (Ql (b := false) rfl rfl rfl (by simpa using Qn3 hq)) ?_;refine QD ?_;refine JT (⟨[(0, .ptr Qe 0)], [(Qe, .var 131 (Xy l (QT l s p) (.ptr (Qe + 1) 0))), ((Qe + 1), .var 137 (Jk p))], 0⟩) ?_ ?_
 ·refine JB ?_;refine zD 15 ?_;refine QdK ?_;refine zP (Qd (KS l hc hl.1 hv.1) rfl rfl rfl) ?_;refine zN ?_
  refine zq ?_ ?_ <;> intro h26
  rotate_left
  ·have hle : QJ l s.lrn p.v = false := h26
   refine QO ?_;exact Qa rfl (XE trivial) ⟨(by first | (rw [QaU hle]; rfl) | (rw [QcP hle]; rfl)), rfl, rfl, rfl, rfl, rfl, trivial⟩
  have hle : QJ l s.lrn p.v = true := h26
  refine Jx ?_;refine Qb ?_;exact Qa rfl (XE trivial) ⟨(by first | (rw [QaU hle]; rfl) | (rw [QcP hle]; rfl)), rfl, rfl, rfl, rfl, rfl, trivial⟩
 refine QD ?_;refine WE hN (XD.of (H := [(Qe, .var 131 (Xy l (QT l s p) (.ptr (Qe + 1) 0))), ((Qe + 1), .var 137 (Jk p))]) rfl) (Xc _) (Qi7 l (QT l s p) (.ptr (Qe + 1) 0) [((Qe + 1), .var 137 (Jk p))] (XD.of rfl) hc (by omega) hn2' hl') (.fn _ _ _ _ rfl rfl) rfl (fun _ _ h => h) rfl rfl rfl rfl rfl rfl ?_;refine Xk ?_
 refine QN hN [(Qe, Qe), ((Qe + 1), (Qe + 1))] (Qnm l (QT l s p) p hc hn1' hn2' hs0' hs1' hm0' hm1' ha' hwt' hw') (.fn _ _ _ _ rfl rfl) rfl rfl rfl ⟨rfl, rfl, rfl, rfl, rfl, rfl, trivial⟩ rfl ⟨rfl, rfl, rfl, trivial⟩ rfl rfl rfl rfl rfl rfl rfl rfl ?_
 refine QS hN rfl rfl rfl (by rw [List.length_map]) rfl rfl (JN _) (by rw [List.length_map, List.length_map]; have h8 := (show (W5 (QT l s p)).length ≤ s.n.toNat from hn' ▸ Qer _); have h9 := (show (JD (Xq l (QT l s p)) (Q1 l (QT l s p)) Xv).length ≤ s.n.toNat from hn' ▸ Qdk ..); refine ⟨?_, ?_⟩ <;> omega) rfl rfl rfl rfl ?_;refine zT ?_;refine Qx (Xl 2 1 rfl rfl (by rw [List.length_append, List.length_map, List.length_map]) (by rw [← List.map_append]; exact JN _) (by rw [← List.map_append]; exact Xc _) rfl) ?_
 refine Qg ?_;change (Q7 _ _).ntt = _ ∧ _;refine Ja rfl ?_ rfl rfl rfl ⟨rfl, rfl, rfl, rfl, rfl, rfl, rfl, rfl, rfl, trivial⟩;exact congrArg (fun z => AV.sl z none) (List.map_append (f := fun b : YB => Jw b) ..).symm
theorem QsP (l : Qv) (s : Nd) (p : Pp) : GC Tryz.prog 48 [.ptr Qe 0] [(Qe, .var 131 (Xy l s (.ptr (Qe + 1) 0))), ((Qe + 1), .var 137 (Jk p))] (i64 p.ref) [(Qe, .var 131 (Xy l s (.ptr (Qe + 1) 0))), ((Qe + 1), .var 137 (Jk p))] := by
 have hH : XD [(Qe, .var 131 (Xy l s (.ptr (Qe + 1) 0))), ((Qe + 1), .var 137 (Jk p))] := XD.of rfl
 refine XA [2] Tryz.func48 rfl rfl 15 Tryz.ntmps48 (Nat.le_of_ble_eq_true rfl) ?_
 intro E hN;refine Xn ?_;refine zP (Yq rfl (by kernel_rfl) rfl rfl (.inr ⟨_, _, _, _, rfl, rfl, rfl⟩) (.inl ⟨rfl, rfl⟩)) ?_;refine YI ?_;refine Qg ?_;change (Q7 _ _).fzt = some _ ∧ _;refine Yt hH hH.pp rfl ?_
 rfl
theorem QiP (l : Qv) (s : Nd) (x : AV) (R : List (Nat × Qs)) (hH : XD ((Qe, .var 131 (Xy l s x)) :: R)) (v : Qp) (hv : XR l v = false) : GC Tryz.prog 40 [.ptr Qe 0, .agg (QF v)] ((Qe, .var 131 (Xy l s x)) :: R) (.tup [.sl [] none, i64 4]) ((Qe, .var 131 (Xy l s x)) :: R) := by
 refine XA [4, 5] Tryz.func40 rfl rfl 31 Tryz.ntmps40 (Nat.le_of_ble_eq_true rfl) ?_
 intro E hN;refine Xo ?_;refine zD 6 ?_;refine Qy ?_;refine zp (Qd (fcb (Qa6 l v) hv) rfl rfl rfl) ?_;refine Xo ?_;refine Qg ?_;change (Q7 _ _).fzt = some _ ∧ _;refine Yt hH hH.pp rfl ?_
 rfl
theorem Qov (l : Qv) (s : Nd) (p : Pp) (v : Qp) (hc : QB l = 0) (hw : El l 40000 s.wt) (hv : XR l v = true) (he : El l 1000 v) : GX Tryz.prog 40 [.ptr Qe 0, .agg (QF v)] [(Qe, .var 131 (Xy l s (.ptr (Qe + 1) 0))), ((Qe + 1), .var 137 (Jk p))] (.tup [.sl [] none, i64 0]) [(Qe, .var 131 (Xy l { s with wt := Qk l s.wt v } (.ptr (Qe + 1) 0))), ((Qe + 1), .var 137 (Jk p))] 1 := by
 have hH : XD [(Qe, .var 131 (Xy l s (.ptr (Qe + 1) 0))), ((Qe + 1), .var 137 (Jk p))] := XD.of rfl
 refine QK [4, 5] Tryz.func40 rfl rfl 31 Tryz.ntmps40 (Nat.le_of_ble_eq_true rfl) ?_
 intro E hN;refine Xo ?_;refine zD 6 ?_;refine Qy ?_;refine zp (Qd (fcb (Qa6 l v) hv) rfl rfl rfl) ?_;refine Qy ?_;refine zD 11 ?_;refine Xg ?_;refine zp (J7 rfl rfl rfl rfl (by exact rfl) (by decide) (by decide) (QaI s.wt v)) ?_;refine zp (QE hH (Wt l s (.ptr (Qe + 1) 0) [((Qe + 1), .var 137 (Jk p))] hH hc (hw.up (by decide)) (he.up (by decide))) rfl rfl rfl hH.pp) ?_;refine Xn ?_;refine zP (Yq rfl (by kernel_rfl) rfl rfl (.inr ⟨_, _, _, _, rfl, rfl, rfl⟩) (.inr ⟨rfl, rfl⟩)) ?_;refine Xg ?_;refine Qx (Yd 4 rfl) ?_
 refine Qg ?_;change (Q7 _ _).ntt = _ ∧ _;refine Ja rfl ?_ rfl rfl rfl ⟨rfl, rfl, rfl, rfl, rfl, rfl, trivial⟩
 rfl
theorem QoD (l : Qv) (s : Nd) (v : Qp) (hc : QB l = 0) (h1 : 1 ≤ s.n) (h2 : s.n ≤ 12) (hs0 : 0 ≤ s.self) (hs1 : s.self < 12) (hn0 : 0 ≤ s.num) (hn1 : s.num ≤ 1000000) (ha : El l 50000 s.acc) (hw : El l 40000 s.wt) (hl : El l 100000 s.lrn) (hv : XR l v = true) (he : El l 1000 v) (hq : Kq (Xq l { s with wt := Qk l s.wt v }) (Q1 l { s with wt := Qk l s.wt v }) = true) : GX Tryz.prog 40 [.ptr Qe 0, .agg (QF v)] [(Qe, .var 131 (Xy l s Jv))] (.tup [Y4 (JD (Xq l { s with wt := Qk l s.wt v }) (Q1 l { s with wt := Qk l s.wt v }) Xv ++ W5 (QT l (Xq l { s with wt := Qk l s.wt v }) (Q1 l { s with wt := Qk l s.wt v }))), i64 0]) [(Qe, .var 131 (Xy l (QT l (Xq l { s with wt := Qk l s.wt v }) (Q1 l { s with wt := Qk l s.wt v })) Jv))] 6 := by
 have hH : XD [(Qe, .var 131 (Xy l s Jv))] := XD.of rfl
 have hj : El l 50000 (Qk l s.wt v) := (hw.join (Xb hc) (by omega) he).up (by decide)
 refine QK [4, 5] Tryz.func40 rfl rfl 31 Tryz.ntmps40 (Nat.le_of_ble_eq_true rfl) ?_
 intro E hN;refine Xo ?_;refine zD 6 ?_;refine Qy ?_;refine zp (Qd (fcb (Qa6 l v) hv) rfl rfl rfl) ?_;refine Qy ?_;refine zD 11 ?_;refine Xg ?_;refine zp (J7 rfl rfl rfl rfl (by exact rfl) (by decide) (by decide) (QaI s.wt v)) ?_;refine zp (QE hH (Wt l s Jv [] hH hc (hw.up (by decide)) (he.up (by decide))) rfl rfl rfl hH.pp) ?_;refine Xn ?_;refine zP (Yq rfl (by kernel_rfl) rfl rfl (.inl ⟨rfl, rfl⟩) (.inr ⟨rfl, rfl⟩)) ?_;refine Xk ?_
 refine QN hN [(Qe, Qe)] (QsL l { s with wt := Qk l s.wt v } hc h1 h2 hs0 hs1 hn0 hn1 ha hj hl hq) (.fn _ _ _ _ rfl rfl) rfl rfl rfl ⟨rfl, rfl, rfl, trivial⟩ rfl ⟨rfl, trivial⟩ rfl rfl rfl rfl rfl rfl rfl rfl ?_;refine QD ?_;refine Qg ?_;change (Q7 _ _).ntt = _ ∧ _;refine Ja rfl ?_ rfl rfl rfl ⟨rfl, rfl, rfl, trivial⟩
 rfl
theorem QkA (l : Qv) (s : Nd) (x : AV) (R : List (Nat × Qs)) (hH : XD ((Qe, .var 131 (Xy l s x)) :: R)) (m : YB) (hne : ¬ J5 l s m = 0) : GC Tryz.prog 42 [.ptr Qe 0, .agg (Jw m)] ((Qe, .var 131 (Xy l s x)) :: R) (.tup [.sl [] none, i64 (J5 l s m)]) ((Qe, .var 131 (Xy l s x)) :: R) := by
 refine XA [4, 5] Tryz.func42 rfl rfl 156 Tryz.ntmps42 (Nat.le_of_ble_eq_true rfl) ?_
 intro E hN;refine Xn ?_;refine zP (QE hH (KU l s x R hH m) rfl rfl rfl hH.pp) ?_;refine Qy ?_;refine zP (Ql (b := true) rfl rfl rfl (by simpa using hne)) ?_;refine Xo ?_;refine Qg ?_;change (Q7 _ _).fzt = some _ ∧ _;refine Yt hH hH.pp rfl ?_
 rfl
theorem Qo9 (l : Qv) (s : Nd) (p : Pp) (m : YB) (hc : QB l = 0) (hk : m.k = 1) (hok : J5 l s m = 0) (ha : El l 40000 s.acc) (hm : El l 40000 m.v) : GX Tryz.prog 42 [.ptr Qe 0, .agg (Jw m)] [(Qe, .var 131 (Xy l s (.ptr (Qe + 1) 0))), ((Qe + 1), .var 137 (Jk p))] (.tup [Y4 [QbV l s m], i64 0]) [(Qe, .var 131 (Xy l { s with acc := Qk l s.acc m.v } (.ptr (Qe + 1) 0))), ((Qe + 1), .var 137 (Jk p))] 2 := by
 have hH : XD [(Qe, .var 131 (Xy l s (.ptr (Qe + 1) 0))), ((Qe + 1), .var 137 (Jk p))] := XD.of rfl
 have hj : El l 100000 (Qk l s.acc m.v) := (ha.join (Xb hc) (by omega) hm).up (by decide)
 refine QK [4, 5] Tryz.func42 rfl rfl 156 Tryz.ntmps42 (Nat.le_of_ble_eq_true rfl) ?_
 intro E hN;refine Xn ?_;refine zP (QE hH (by have h := KU l s (.ptr (Qe + 1) 0) [((Qe + 1), .var 137 (Jk p))] hH m; rwa [hok] at h) rfl rfl rfl hH.pp) ?_;refine Xs ?_;refine zD 14 ?_;refine QC ?_;refine zp (Yq rfl (by kernel_rfl) rfl rfl (.inr ⟨_, _, _, _, rfl, rfl, rfl⟩) (.inr ⟨rfl, rfl⟩)) ?_;refine Qdb ?_;refine zP (Ql (b := true) rfl rfl rfl (by simpa using hk)) ?_;refine QC ?_;refine Qcn [([0, 1, 2, 3, 4, 5, 6, 7, 8], 9)] [10] (by kernel_rfl) (by kernel_rfl) rfl ?_;refine ⟨_, rfl, ?_⟩;refine Xo ?_;refine zp (Kf rfl rfl rfl) ?_
 change FK _ _ _ _ _ _;refine QeE hN rfl rfl rfl rfl rfl rfl rfl ?_;change Q3 _ _ _ _ _ _;refine QD ?_;refine zD 11 ?_;refine Xs ?_;refine zp (Qd (KS l hc ha.1 hm.1) rfl rfl rfl) ?_;refine QD ?_;refine zD 12 ?_;refine Xo ?_;refine zp (J7 rfl rfl rfl rfl (by exact rfl) (by decide) (by decide) (QaI s.acc m.v)) ?_;refine zp (QE hH (Wt l s (.ptr (Qe + 1) 0) [((Qe + 1), .var 137 (Jk p))] hH hc (ha.up (by decide)) (hm.up (by decide))) rfl rfl rfl hH.pp) ?_;refine Xs ?_
 refine zq ?_ ?_ <;> intro h31
 rotate_left
 ·have hle : QJ l s.acc m.v = true := by simpa using h31
  refine QC ?_;refine zP (QG rfl rfl rfl rfl (by exact rfl) (by decide) (by decide)) ?_;refine QD ?_;refine Qg ?_;change (Q7 _ _).ntt = _ ∧ _;refine Ja rfl ?_ rfl rfl rfl ⟨rfl, rfl, rfl, rfl, rfl, rfl, trivial⟩
  rw [QbV, hle]; rfl
 have hle : QJ l s.acc m.v = false := by simpa using h31
 refine Xk ?_;refine zP (Q0 [] (JH l { s with acc := Qk l s.acc m.v } (.ptr (Qe + 1) 0) [((Qe + 1), .var 137 (Jk p))] (XD.of rfl) hc hj) rfl rfl rfl rfl ⟨rfl, rfl, rfl, rfl, rfl, rfl, rfl, rfl, trivial⟩ rfl) ?_;refine Xo ?_;refine zP (QG rfl rfl rfl rfl (by exact rfl) (by decide) (by decide)) ?_;refine QD ?_;refine Qg ?_;change (Q7 _ _).ntt = _ ∧ _;refine Ja rfl ?_ rfl rfl rfl ⟨rfl, rfl, rfl, rfl, rfl, rfl, trivial⟩
 rw [QbV, hle]; rfl
theorem Qoy (l : Qv) (s : Nd) (R : List (Nat × Qs)) (hH : XD ((Qe, .var 131 (Xy l s Jv)) :: R)) (m : YB) (hk : m.k = 2 ∨ m.k = 3) (hok : J5 l s m = 0) : GC Tryz.prog 42 [.ptr Qe 0, .agg (Jw m)] ((Qe, .var 131 (Xy l s Jv)) :: R) (.tup [.sl [] none, i64 0]) ((Qe, .var 131 (Xy l s Jv)) :: R) := by
 refine XA [4, 5] Tryz.func42 rfl rfl 156 Tryz.ntmps42 (Nat.le_of_ble_eq_true rfl) ?_
 intro E hN;refine Xn ?_;refine zP (QE hH (by have h := KU l s Jv R hH m; rwa [hok] at h) rfl rfl rfl hH.pp) ?_;refine Xs ?_;refine zD 14 ?_;refine QC ?_;refine zp (Yq rfl (by kernel_rfl) rfl rfl (.inl ⟨rfl, rfl⟩) (.inr ⟨rfl, rfl⟩)) ?_;refine Qdb ?_;refine zP (Ql (b := false) rfl rfl rfl (by simp; omega)) ?_;refine Xo ?_
 refine zq ?_ ?_ <;> intro h11
 ·refine Xn ?_;refine Qg ?_;change (Q7 _ _).fzt = some _ ∧ _;refine Yt hH hH.pp rfl ?_
  rfl
 refine zG ?_;refine zP (Ql (b := true) rfl rfl rfl (by simp_all)) ?_;refine YI ?_;refine Qg ?_;change (Q7 _ _).fzt = some _ ∧ _;refine Yt hH hH.pp rfl ?_
 rfl
theorem Qo5 (l : Qv) (s : Nd) (p : Pp) (m : YB) (hk : m.k = 2 ∨ m.k = 3) (hok : J5 l s m = 0) (hn : ¬ m.n = s.num) : GC Tryz.prog 42 [.ptr Qe 0, .agg (Jw m)] [(Qe, .var 131 (Xy l s (.ptr (Qe + 1) 0))), ((Qe + 1), .var 137 (Jk p))] (.tup [.sl [] none, i64 0]) [(Qe, .var 131 (Xy l s (.ptr (Qe + 1) 0))), ((Qe + 1), .var 137 (Jk p))] := by
 have hH : XD [(Qe, .var 131 (Xy l s (.ptr (Qe + 1) 0))), ((Qe + 1), .var 137 (Jk p))] := XD.of rfl
 refine XA [4, 5] Tryz.func42 rfl rfl 156 Tryz.ntmps42 (Nat.le_of_ble_eq_true rfl) ?_
 intro E hN;refine Xn ?_;refine zP (QE hH (by have h := KU l s (.ptr (Qe + 1) 0) [((Qe + 1), .var 137 (Jk p))] hH m; rwa [hok] at h) rfl rfl rfl hH.pp) ?_;refine Xs ?_;refine zD 14 ?_;refine QC ?_;refine zp (Yq rfl (by kernel_rfl) rfl rfl (.inr ⟨_, _, _, _, rfl, rfl, rfl⟩) (.inr ⟨rfl, rfl⟩)) ?_;refine Xg ?_;refine zp (Ql (b := false) rfl rfl rfl (by simpa using hn)) ?_;refine Jx ?_;refine zP (Ql (b := false) rfl rfl rfl (by simp; omega)) ?_;refine Xo ?_
 refine zq ?_ ?_ <;> intro h15
 ·refine Xn ?_;refine Qg ?_;change (Q7 _ _).fzt = some _ ∧ _;refine Yt hH hH.pp rfl ?_
  rfl
 refine zG ?_;refine zP (Ql (b := true) rfl rfl rfl (by simp_all)) ?_;refine YI ?_;refine Qg ?_;change (Q7 _ _).fzt = some _ ∧ _;refine Yt hH hH.pp rfl ?_
 rfl
theorem Qrh (l : Qv) (s : Nd) (p : Pp) (m : YB) (hk : m.k = 2) (hok : J5 l s m = 0) (h1 : 1 ≤ s.n) (h2 : s.n ≤ 12) (hmine : m.n = s.num) (hq : Kq s { p with ack := Yp p.ack m.f.toNat true } = false) : GX Tryz.prog 42 [.ptr Qe 0, .agg (Jw m)] [(Qe, .var 131 (Xy l s (.ptr (Qe + 1) 0))), ((Qe + 1), .var 137 (Jk p))] (.tup [.sl [] none, i64 0]) [(Qe, .var 131 (Xy l s (.ptr (Qe + 1) 0))), ((Qe + 1), .var 137 (Jk { p with ack := Yp p.ack m.f.toNat true }))] 1 := by
 have hH : XD [(Qe, .var 131 (Xy l s (.ptr (Qe + 1) 0))), ((Qe + 1), .var 137 (Jk p))] := XD.of rfl
 obtain ⟨-, -, f0, f1, -, -⟩ := Y9 hok;have hf12 : m.f.toNat < 12 := by omega
 refine QK [4, 5] Tryz.func42 rfl rfl 156 Tryz.ntmps42 (Nat.le_of_ble_eq_true rfl) ?_
 intro E hN;refine Xn ?_;refine zP (QE hH (by have h := KU l s (.ptr (Qe + 1) 0) [((Qe + 1), .var 137 (Jk p))] hH m; rwa [hok] at h) rfl rfl rfl hH.pp) ?_;refine Xs ?_;refine zD 14 ?_;refine QC ?_;refine zp (Yq rfl (by kernel_rfl) rfl rfl (.inr ⟨_, _, _, _, rfl, rfl, rfl⟩) (.inr ⟨rfl, rfl⟩)) ?_;refine Xg ?_;refine zp (Ql (b := true) rfl rfl rfl (by simpa using hmine)) ?_;refine Jx ?_;refine zP (Ql (b := false) rfl rfl rfl (by simp [hk])) ?_;refine Qy ?_;refine zP (Ql (b := true) rfl rfl rfl (by simpa using hk)) ?_;refine X3 ?_
 refine zD 9 ?_;refine Xo ?_;refine zp (Qlf rfl rfl rfl m.f.toNat (by omega) hf12 rfl rfl) ?_;refine Qcp rfl rfl rfl rfl rfl rfl (QnG hf12) rfl rfl rfl (QjD hf12) ?_;refine QC ?_;refine zP (Q0 [] (Qnn l s { p with ack := Yp p.ack m.f.toNat true } h1 h2 hq) rfl rfl rfl rfl ⟨rfl, rfl, rfl, rfl, rfl, rfl, rfl, rfl, trivial⟩ rfl) ?_;refine QD ?_;refine Qg ?_;change (Q7 _ _).ntt = _ ∧ _;refine Ja rfl ?_ rfl rfl rfl ⟨rfl, rfl, rfl, rfl, rfl, rfl, trivial⟩
 rfl
theorem Qrs (l : Qv) (s : Nd) (p : Pp) (m : YB) (hc : QB l = 0) (hk : m.k = 2) (hok : J5 l s m = 0) (h1 : 2 ≤ s.n) (h2 : s.n ≤ 12) (hs0 : 0 ≤ s.self) (hs1 : s.self < 12) (hn0 : 0 ≤ s.num) (hn1 : s.num ≤ 1000000) (ha : El l 50000 s.acc) (hwt : El l 50000 s.wt) (hmine : m.n = s.num) (hl : El l 100000 s.lrn) (hv : El l 100000 p.v) (hq : Kq s { p with ack := Yp p.ack m.f.toNat true } = true) (hw : WH s.wt (Qn l) = false) : GX Tryz.prog 42 [.ptr Qe 0, .agg (Jw m)] [(Qe, .var 131 (Xy l s (.ptr (Qe + 1) 0))), ((Qe + 1), .var 137 (Jk p))] (.tup [Y4 (W5 (QT l s p) ++ JD (Xq l (QT l s p)) (Q1 l (QT l s p)) Xv), i64 0]) [(Qe, .var 131 (Xy l (Xq l (QT l s p)) (.ptr 3 0))), (3, .var 137 (Jk (Q1 l (QT l s p)))), ((Qe + 1), .var 137 (Jk { p with ack := Yp p.ack m.f.toNat true }))] 6 := by
 have hH : XD [(Qe, .var 131 (Xy l s (.ptr (Qe + 1) 0))), ((Qe + 1), .var 137 (Jk p))] := XD.of rfl
 obtain ⟨-, -, f0, f1, -, -⟩ := Y9 hok;have hf12 : m.f.toNat < 12 := by omega
 refine QK [4, 5] Tryz.func42 rfl rfl 156 Tryz.ntmps42 (Nat.le_of_ble_eq_true rfl) ?_
 intro E hN;refine Xn ?_;refine zP (QE hH (by have h := KU l s (.ptr (Qe + 1) 0) [((Qe + 1), .var 137 (Jk p))] hH m; rwa [hok] at h) rfl rfl rfl hH.pp) ?_;refine Xs ?_;refine zD 14 ?_;refine QC ?_;refine zp (Yq rfl (by kernel_rfl) rfl rfl (.inr ⟨_, _, _, _, rfl, rfl, rfl⟩) (.inr ⟨rfl, rfl⟩)) ?_;refine Xg ?_;refine zp (Ql (b := true) rfl rfl rfl (by simpa using hmine)) ?_;refine Jx ?_;refine zP (Ql (b := false) rfl rfl rfl (by simp [hk])) ?_;refine Qy ?_;refine zP (Ql (b := true) rfl rfl rfl (by simpa using hk)) ?_;refine X3 ?_
 refine zD 9 ?_;refine Xo ?_;refine zp (Qlf rfl rfl rfl m.f.toNat (by omega) hf12 rfl rfl) ?_;refine Qcp rfl rfl rfl rfl rfl rfl (QnG hf12) rfl rfl rfl (QjD hf12) ?_;refine QC ?_;refine QN hN [(Qe, Qe), ((Qe + 1), (Qe + 1))] (Qtl l s { p with ack := Yp p.ack m.f.toNat true } hc h1 h2 hs0 hs1 hn0 hn1 ha hwt hl hv hq hw) (.fn _ _ _ _ rfl rfl) rfl rfl rfl ⟨rfl, rfl, rfl, rfl, rfl, rfl, trivial⟩ rfl ⟨rfl, rfl, rfl, trivial⟩ rfl rfl rfl rfl rfl rfl rfl rfl ?_;refine QD ?_;refine Qg ?_;change (Q7 _ _).ntt = _ ∧ _
 refine Ja rfl ?_ rfl rfl rfl ⟨rfl, rfl, rfl, rfl, rfl, rfl, rfl, rfl, rfl, trivial⟩
 rfl
theorem QqU (l : Qv) (s : Nd) (p : Pp) (m : YB) (hc : QB l = 0) (hk : m.k = 3) (hok : J5 l s m = 0) (hmine : m.n = s.num) (hg : El l 100000 p.g) (hm : El l 100000 m.v) : GX Tryz.prog 42 [.ptr Qe 0, .agg (Jw m)] [(Qe, .var 131 (Xy l s (.ptr (Qe + 1) 0))), ((Qe + 1), .var 137 (Jk p))] (.tup [.sl [] none, i64 0]) [(Qe, .var 131 (Xy l s (.ptr (Qe + 1) 0))), ((Qe + 1), .var 137 (Jk { p with g := Qk l p.g m.v }))] 1 := by
 have hH : XD [(Qe, .var 131 (Xy l s (.ptr (Qe + 1) 0))), ((Qe + 1), .var 137 (Jk p))] := XD.of rfl
 refine QK [4, 5] Tryz.func42 rfl rfl 156 Tryz.ntmps42 (Nat.le_of_ble_eq_true rfl) ?_
 intro E hN;refine Xn ?_;refine zP (QE hH (by have h := KU l s (.ptr (Qe + 1) 0) [((Qe + 1), .var 137 (Jk p))] hH m; rwa [hok] at h) rfl rfl rfl hH.pp) ?_;refine Xs ?_;refine zD 14 ?_;refine QC ?_;refine zp (Yq rfl (by kernel_rfl) rfl rfl (.inr ⟨_, _, _, _, rfl, rfl, rfl⟩) (.inr ⟨rfl, rfl⟩)) ?_;refine Xg ?_;refine zp (Ql (b := true) rfl rfl rfl (by simpa using hmine)) ?_;refine Jx ?_;refine zP (Ql (b := false) rfl rfl rfl (by simp [hk])) ?_;refine Qy ?_;refine zP (Ql (b := false) rfl rfl rfl (by simp [hk])) ?_;refine Qy ?_
 refine zP (Ql (b := true) rfl rfl rfl (by simpa using hk)) ?_;refine Xo ?_;refine zD 18 ?_;refine YI ?_;refine zp (J7 rfl rfl rfl rfl (by exact rfl) (by decide) (by decide) (QaI p.g m.v)) ?_;refine zp (QE hH (Wt l s (.ptr (Qe + 1) 0) [((Qe + 1), .var 137 (Jk p))] hH hc hg hm) rfl rfl rfl hH.pp) ?_;refine X3 ?_;refine Qx (Yd 4 rfl) ?_;refine Qg ?_;change (Q7 _ _).ntt = _ ∧ _;refine Ja rfl ?_ rfl rfl rfl ⟨rfl, rfl, rfl, rfl, rfl, rfl, trivial⟩
 rfl
def Xi (l : Qv) (s : Nd) (m : YB) : Nd := { s with lrn := if QJ l s.lrn m.v then m.v else s.lrn }
theorem Ya {l : Qv} {s : Nd} {m : YB} (h : QJ l s.lrn m.v = true) : Xi l s m = { s with lrn := m.v } := by rw [Xi, if_pos h]
theorem YS {l : Qv} {s : Nd} {m : YB} (h : QJ l s.lrn m.v = false) : Xi l s m = s := by rw [Xi, if_neg (by rw [h]; decide)]
theorem Qo2 (l : Qv) (s : Nd) (m : YB) (hc : QB l = 0) (hk : m.k = 4) (hok : J5 l s m = 0) (hl : El l 100000 s.lrn) (hm : El l 100000 m.v) : GX Tryz.prog 42 [.ptr Qe 0, .agg (Jw m)] [(Qe, .var 131 (Xy l s Jv))] (.tup [.sl [] none, i64 0]) [(Qe, .var 131 (Xy l (Xi l s m) Jv))] 1 := by
 have hH : XD [(Qe, .var 131 (Xy l s Jv))] := XD.of rfl
 refine QK [4, 5] Tryz.func42 rfl rfl 156 Tryz.ntmps42 (Nat.le_of_ble_eq_true rfl) ?_
 intro E hN;refine Xn ?_;refine zP (QE hH (by have h := KU l s Jv [] hH m; rwa [hok] at h) rfl rfl rfl hH.pp) ?_;refine Xs ?_;refine zD 14 ?_;refine QC ?_;refine zp (Yq rfl (by kernel_rfl) rfl rfl (.inl ⟨rfl, rfl⟩) (.inr ⟨rfl, rfl⟩)) ?_;refine Qdb ?_;refine zP (Ql (b := false) rfl rfl rfl (by simp [hk])) ?_;refine Qy ?_;refine zP (Ql (b := false) rfl rfl rfl (by simp [hk])) ?_;refine Qy ?_;refine zP (Ql (b := false) rfl rfl rfl (by simp [hk])) ?_;refine QD ?_
 refine JT (⟨[(0, .ptr Qe 0)], [(Qe, .var 131 (Xy l (Xi l s m) Jv))], 1⟩) ?_ ?_
 ·refine JB ?_;refine zD 10 ?_;refine Xs ?_;refine zP (Qd (KS l hc hl.1 hm.1) rfl rfl rfl) ?_;refine zN ?_
  refine zq ?_ ?_ <;> intro h17
  ·have hle : QJ l s.lrn m.v = true := h17
   refine Qy ?_;refine zP (QE hH (JH l s Jv [] hH hc hm) rfl rfl rfl hH.pp) ?_;refine QD ?_;refine Qb ?_;exact Qa rfl (XE trivial) ⟨(by first | (rw [Ya hle]; rfl) | (rw [YS hle]; rfl)), rfl, rfl, trivial⟩
  have hle : QJ l s.lrn m.v = false := h17
  refine QO ?_;exact Qa rfl (XE trivial) ⟨(by first | (rw [Ya hle]; rfl) | (rw [YS hle]; rfl)), rfl, rfl, trivial⟩
 refine JB ?_;refine zD 22 ?_;refine QC ?_;refine zp (Yq rfl (by kernel_rfl) rfl rfl (.inl ⟨rfl, rfl⟩) (.inr ⟨rfl, rfl⟩)) ?_;refine QaZ ?_;refine QH ?_;refine Qx (Yd 4 rfl) ?_;refine Qg ?_;change (Q7 _ _).ntt = _ ∧ _;refine Ja rfl ?_ rfl rfl rfl ⟨rfl, rfl, rfl, trivial⟩
 rfl
theorem Qpk (l : Qv) (s : Nd) (p : Pp) (m : YB) (hc : QB l = 0) (hk : m.k = 4) (hok : J5 l s m = 0) (hl : El l 100000 s.lrn) (hm : El l 100000 m.v) (hv : Qw p.v l = true) (hle2 : QJ l p.v (Xi l s m).lrn = false) : GX Tryz.prog 42 [.ptr Qe 0, .agg (Jw m)] [(Qe, .var 131 (Xy l s (.ptr (Qe + 1) 0))), ((Qe + 1), .var 137 (Jk p))] (.tup [.sl [] none, i64 0]) [(Qe, .var 131 (Xy l (Xi l s m) (.ptr (Qe + 1) 0))), ((Qe + 1), .var 137 (Jk p))] 1 := by
 have hH : XD [(Qe, .var 131 (Xy l s (.ptr (Qe + 1) 0))), ((Qe + 1), .var 137 (Jk p))] := XD.of rfl
 have hl' : El l 100000 (Xi l s m).lrn := by unfold Xi; dsimp only; split <;> assumption
 refine QK [4, 5] Tryz.func42 rfl rfl 156 Tryz.ntmps42 (Nat.le_of_ble_eq_true rfl) ?_
 intro E hN;refine Xn ?_;refine zP (QE hH (by have h := KU l s (.ptr (Qe + 1) 0) [((Qe + 1), .var 137 (Jk p))] hH m; rwa [hok] at h) rfl rfl rfl hH.pp) ?_;refine Xs ?_;refine zD 14 ?_;refine QC ?_;refine zp (Yq rfl (by kernel_rfl) rfl rfl (.inr ⟨_, _, _, _, rfl, rfl, rfl⟩) (.inr ⟨rfl, rfl⟩)) ?_;refine Qdb ?_;refine zP (Ql (b := false) rfl rfl rfl (by simp [hk])) ?_;refine Qy ?_;refine zP (Ql (b := false) rfl rfl rfl (by simp [hk])) ?_;refine Qy ?_;refine zP (Ql (b := false) rfl rfl rfl (by simp [hk])) ?_;refine QD ?_
 refine JT (⟨[(0, .ptr Qe 0)], [(Qe, .var 131 (Xy l (Xi l s m) (.ptr (Qe + 1) 0))), ((Qe + 1), .var 137 (Jk p))], 1⟩) ?_ ?_
 ·refine JB ?_;refine zD 10 ?_;refine Xs ?_;refine zP (Qd (KS l hc hl.1 hm.1) rfl rfl rfl) ?_;refine zN ?_
  refine zq ?_ ?_ <;> intro h22
  ·have hle : QJ l s.lrn m.v = true := h22
   refine Qy ?_;refine zP (QE hH (JH l s (.ptr (Qe + 1) 0) [((Qe + 1), .var 137 (Jk p))] hH hc hm) rfl rfl rfl hH.pp) ?_;refine QD ?_;refine Qb ?_;exact Qa rfl (XE trivial) ⟨(by first | (rw [Ya hle]; rfl) | (rw [YS hle]; rfl)), rfl, rfl, rfl, rfl, rfl, trivial⟩
  have hle : QJ l s.lrn m.v = false := h22
  refine QO ?_;exact Qa rfl (XE trivial) ⟨(by first | (rw [Ya hle]; rfl) | (rw [YS hle]; rfl)), rfl, rfl, rfl, rfl, rfl, trivial⟩
 refine JB ?_;refine zD 22 ?_;refine QC ?_;refine zp (Yq rfl (by kernel_rfl) rfl rfl (.inr ⟨_, _, _, _, rfl, rfl, rfl⟩) (.inr ⟨rfl, rfl⟩)) ?_;refine QaL ?_;refine zp (Qd (fcb (KS l hc hv hl'.1) hle2) rfl rfl rfl) ?_;refine X3 ?_;refine Qx (Yd 4 rfl) ?_;refine Qg ?_;change (Q7 _ _).ntt = _ ∧ _;refine Ja rfl ?_ rfl rfl rfl ⟨rfl, rfl, rfl, rfl, rfl, rfl, trivial⟩
 rfl
theorem QoM (l : Qv) (s : Nd) (p : Pp) (m : YB) (hc : QB l = 0) (hk : m.k = 4) (hok : J5 l s m = 0) (hl : El l 100000 s.lrn) (hm : El l 100000 m.v) (hv : Qw p.v l = true) (hle2 : QJ l p.v (Xi l s m).lrn = true) (hw : WH (Xi l s m).wt (Qn l) = true) : GX Tryz.prog 42 [.ptr Qe 0, .agg (Jw m)] [(Qe, .var 131 (Xy l s (.ptr (Qe + 1) 0))), ((Qe + 1), .var 137 (Jk p))] (.tup [.sl [] none, i64 0]) [(Qe, .var 131 (Xy l (Xi l s m) Jv)), ((Qe + 1), .var 137 (Jk p))] 1 := by
 have hH : XD [(Qe, .var 131 (Xy l s (.ptr (Qe + 1) 0))), ((Qe + 1), .var 137 (Jk p))] := XD.of rfl
 have hl' : El l 100000 (Xi l s m).lrn := by unfold Xi; dsimp only; split <;> assumption
 refine QK [4, 5] Tryz.func42 rfl rfl 156 Tryz.ntmps42 (Nat.le_of_ble_eq_true rfl) ?_
 intro E hN;refine Xn ?_;refine zP (QE hH (by have h := KU l s (.ptr (Qe + 1) 0) [((Qe + 1), .var 137 (Jk p))] hH m; rwa [hok] at h) rfl rfl rfl hH.pp) ?_;refine Xs ?_;refine zD 14 ?_;refine QC ?_;refine zp (Yq rfl (by kernel_rfl) rfl rfl (.inr ⟨_, _, _, _, rfl, rfl, rfl⟩) (.inr ⟨rfl, rfl⟩)) ?_;refine Qdb ?_;refine zP (Ql (b := false) rfl rfl rfl (by simp [hk])) ?_;refine Qy ?_;refine zP (Ql (b := false) rfl rfl rfl (by simp [hk])) ?_;refine Qy ?_;refine zP (Ql (b := false) rfl rfl rfl (by simp [hk])) ?_;refine QD ?_
 refine JT (⟨[(0, .ptr Qe 0)], [(Qe, .var 131 (Xy l (Xi l s m) (.ptr (Qe + 1) 0))), ((Qe + 1), .var 137 (Jk p))], 1⟩) ?_ ?_
 ·refine JB ?_;refine zD 10 ?_;refine Xs ?_;refine zP (Qd (KS l hc hl.1 hm.1) rfl rfl rfl) ?_;refine zN ?_
  refine zq ?_ ?_ <;> intro h22
  ·have hle : QJ l s.lrn m.v = true := h22
   refine Qy ?_;refine zP (QE hH (JH l s (.ptr (Qe + 1) 0) [((Qe + 1), .var 137 (Jk p))] hH hc hm) rfl rfl rfl hH.pp) ?_;refine QD ?_;refine Qb ?_;exact Qa rfl (XE trivial) ⟨(by first | (rw [Ya hle]; rfl) | (rw [YS hle]; rfl)), rfl, rfl, rfl, rfl, rfl, trivial⟩
  have hle : QJ l s.lrn m.v = false := h22
  refine QO ?_;exact Qa rfl (XE trivial) ⟨(by first | (rw [Ya hle]; rfl) | (rw [YS hle]; rfl)), rfl, rfl, rfl, rfl, rfl, trivial⟩
 refine JB ?_;refine zD 22 ?_;refine QC ?_;refine zp (Yq rfl (by kernel_rfl) rfl rfl (.inr ⟨_, _, _, _, rfl, rfl, rfl⟩) (.inr ⟨rfl, rfl⟩)) ?_;refine QaL ?_;refine zp (Qd (fcb (KS l hc hv hl'.1) hle2) rfl rfl rfl) ?_;refine Xk ?_;refine QN hN [(Qe, Qe), ((Qe + 1), (Qe + 1))] (Qn2 l (Xi l s m) p hc hw) (.fn _ _ _ _ rfl rfl) rfl rfl rfl ⟨rfl, rfl, rfl, rfl, rfl, rfl, trivial⟩ rfl ⟨rfl, rfl, trivial⟩ rfl rfl rfl rfl rfl rfl rfl rfl ?_;refine QD ?_;refine Qg ?_;change (Q7 _ _).ntt = _ ∧ _;refine Ja rfl ?_ rfl rfl rfl ⟨rfl, rfl, rfl, rfl, rfl, rfl, trivial⟩
 rfl
theorem Qpi (l : Qv) (s : Nd) (p : Pp) (m : YB) (hc : QB l = 0) (hk : m.k = 4) (hok : J5 l s m = 0) (hl : El l 100000 s.lrn) (hm : El l 100000 m.v) (hv : Qw p.v l = true) (hle2 : QJ l p.v (Xi l s m).lrn = true) (hw : WH (Xi l s m).wt (Qn l) = false) (h1 : 2 ≤ (Xi l s m).n) (h2 : (Xi l s m).n ≤ 12) (hs0 : 0 ≤ (Xi l s m).self) (hs1 : (Xi l s m).self < 12) (hn0 : 0 ≤ (Xi l s m).num) (hn1 : (Xi l s m).num ≤ 1000000) (ha : El l 50000 (Xi l s m).acc) (hwt : El l 50000 (Xi l s m).wt) : GX Tryz.prog 42 [.ptr Qe 0, .agg (Jw m)] [(Qe, .var 131 (Xy l s (.ptr (Qe + 1) 0))), ((Qe + 1), .var 137 (Jk p))] (.tup [Y4 (JD (Xq l (Xi l s m)) (Q1 l (Xi l s m)) Xv), i64 0]) [(Qe, .var 131 (Xy l (Xq l (Xi l s m)) (.ptr 1 0))), (1, .var 137 (Jk (Q1 l (Xi l s m)))), ((Qe + 1), .var 137 (Jk p))] 4 := by
 have hH : XD [(Qe, .var 131 (Xy l s (.ptr (Qe + 1) 0))), ((Qe + 1), .var 137 (Jk p))] := XD.of rfl
 have hl' : El l 100000 (Xi l s m).lrn := by unfold Xi; dsimp only; split <;> assumption
 refine QK [4, 5] Tryz.func42 rfl rfl 156 Tryz.ntmps42 (Nat.le_of_ble_eq_true rfl) ?_
 intro E hN;refine Xn ?_;refine zP (QE hH (by have h := KU l s (.ptr (Qe + 1) 0) [((Qe + 1), .var 137 (Jk p))] hH m; rwa [hok] at h) rfl rfl rfl hH.pp) ?_;refine Xs ?_;refine zD 14 ?_;refine QC ?_;refine zp (Yq rfl (by kernel_rfl) rfl rfl (.inr ⟨_, _, _, _, rfl, rfl, rfl⟩) (.inr ⟨rfl, rfl⟩)) ?_;refine Qdb ?_;refine zP (Ql (b := false) rfl rfl rfl (by simp [hk])) ?_;refine Qy ?_;refine zP (Ql (b := false) rfl rfl rfl (by simp [hk])) ?_;refine Qy ?_;refine zP (Ql (b := false) rfl rfl rfl (by simp [hk])) ?_;refine QD ?_
 refine JT (⟨[(0, .ptr Qe 0)], [(Qe, .var 131 (Xy l (Xi l s m) (.ptr (Qe + 1) 0))), ((Qe + 1), .var 137 (Jk p))], 1⟩) ?_ ?_
 ·refine JB ?_;refine zD 10 ?_;refine Xs ?_;refine zP (Qd (KS l hc hl.1 hm.1) rfl rfl rfl) ?_;refine zN ?_
  refine zq ?_ ?_ <;> intro h22
  ·have hle : QJ l s.lrn m.v = true := h22
   refine Qy ?_;refine zP (QE hH (JH l s (.ptr (Qe + 1) 0) [((Qe + 1), .var 137 (Jk p))] hH hc hm) rfl rfl rfl hH.pp) ?_;refine QD ?_;refine Qb ?_;exact Qa rfl (XE trivial) ⟨(by first | (rw [Ya hle]; rfl) | (rw [YS hle]; rfl)), rfl, rfl, rfl, rfl, rfl, trivial⟩
  have hle : QJ l s.lrn m.v = false := h22
  refine QO ?_;exact Qa rfl (XE trivial) ⟨(by first | (rw [Ya hle]; rfl) | (rw [YS hle]; rfl)), rfl, rfl, rfl, rfl, rfl, trivial⟩
 refine JB ?_;refine zD 22 ?_;refine QC ?_;refine zp (Yq rfl (by kernel_rfl) rfl rfl (.inr ⟨_, _, _, _, rfl, rfl, rfl⟩) (.inr ⟨rfl, rfl⟩)) ?_;refine QaL ?_;refine zp (Qd (fcb (KS l hc hv hl'.1) hle2) rfl rfl rfl) ?_;refine Xk ?_;refine QN hN [(Qe, Qe), ((Qe + 1), (Qe + 1))] (Qnm l (Xi l s m) p hc h1 h2 hs0 hs1 hn0 hn1 ha hwt hw) (.fn _ _ _ _ rfl rfl) rfl rfl rfl ⟨rfl, rfl, rfl, rfl, rfl, rfl, trivial⟩ rfl ⟨rfl, rfl, rfl, trivial⟩ rfl rfl rfl rfl rfl rfl rfl rfl ?_;refine QD ?_;refine Qg ?_;change (Q7 _ _).ntt = _ ∧ _
 refine Ja rfl ?_ rfl rfl rfl ⟨rfl, rfl, rfl, rfl, rfl, rfl, rfl, rfl, rfl, trivial⟩
 rfl
theorem Qqa (l : Qv) (s : Nd) (hc : QB l = 0) (h1 : 1 ≤ s.n) (h2 : s.n ≤ 12) (hl : El l 100000 s.lrn) (hw : WH s.lrn (Qn l) = false) : GC Tryz.prog 44 [.ptr Qe 0] [(Qe, .var 131 (Xy l s Jv))] (Y4 (W5 s)) [(Qe, .var 131 (Xy l s Jv))] := by
 have hH : XD [(Qe, .var 131 (Xy l s Jv))] := XD.of rfl
 refine XA [2] Tryz.func44 rfl rfl 73 Tryz.ntmps44 (Nat.le_of_ble_eq_true rfl) ?_
 intro E hN;refine QaL ?_;refine zD 13 ?_;refine zl ?_;refine zp (Yq rfl (by kernel_rfl) rfl rfl (.inl ⟨rfl, rfl⟩) (.inl ⟨rfl, rfl⟩)) ?_;refine X3 ?_;refine zp (Qd (fcb (QdB l s.lrn hc) hw) rfl rfl rfl) ?_;refine Xg ?_;refine zP (Yq rfl (by kernel_rfl) rfl rfl (.inl ⟨rfl, rfl⟩) (.inl ⟨rfl, rfl⟩)) ?_;refine Xk ?_;refine WE hN hH (Xc _) (Qi7 l s Jv [] hH hc h1 h2 hl) (.fn _ _ _ _ rfl rfl) rfl hH.pp rfl rfl rfl rfl rfl rfl ?_;refine zT ?_;refine Qx (Xl 2 2 rfl rfl (by rw [List.length_map]) (JN _) (Xc _) rfl) ?_;refine Qg ?_
 change (Q7 _ _).fzt = some _ ∧ _;refine Qcd rfl ?_ rfl ?_ rfl
 all_goals rfl
theorem Qp6 (l : Qv) (s : Nd) (p : Pp) (hc : QB l = 0) (h1 : 1 ≤ s.n) (h2 : s.n ≤ 12) (hs0 : 0 ≤ s.self) (hs1 : s.self < 12) (hn0 : 0 ≤ s.num) (hn1 : s.num ≤ 1000000) (hr0 : 0 ≤ p.ref) (hr1 : p.ref ≤ 1000000) (hv : El l 30000 p.v) (hg : El l 30000 p.g) (ha : El l 30000 s.acc) (hle : QJ l p.g p.v = false) : GX Tryz.prog 44 [.ptr Qe 0] [(Qe, .var 131 (Xy l s (.ptr (Qe + 1) 0))), ((Qe + 1), .var 137 (Jk p))] (Y4 (JD (Qc2 s { p with v := Qk l (Qk l p.v p.g) s.acc, ref := p.ref + 1 }) (Qbw l s { p with v := Qk l (Qk l p.v p.g) s.acc, ref := p.ref + 1 }) Xv)) [(Qe, .var 131 (Xy l (Qc2 s { p with v := Qk l (Qk l p.v p.g) s.acc, ref := p.ref + 1 }) (.ptr (Qe + 1) 0))), ((Qe + 1), .var 137 (Jk (Qbw l s { p with v := Qk l (Qk l p.v p.g) s.acc, ref := p.ref + 1 })))] 3 := by
 have hH : XD [(Qe, .var 131 (Xy l s (.ptr (Qe + 1) 0))), ((Qe + 1), .var 137 (Jk p))] := XD.of rfl
 have hj : El l 100000 (Qk l (Qk l p.v p.g) s.acc) := ((hv.join (Xb hc) (by omega) hg).join (Xb hc) (by omega) ha).up (by decide)
 refine QK [2] Tryz.func44 rfl rfl 73 Tryz.ntmps44 (Nat.le_of_ble_eq_true rfl) ?_
 intro E hN;refine QaL ?_;refine zD 13 ?_;refine zl ?_;refine zp (Yq rfl (by kernel_rfl) rfl rfl (.inr ⟨_, _, _, _, rfl, rfl, rfl⟩) (.inl ⟨rfl, rfl⟩)) ?_;refine Qd8 ?_;refine zP (Yq rfl (by kernel_rfl) rfl rfl (.inr ⟨_, _, _, _, rfl, rfl, rfl⟩) (.inl ⟨rfl, rfl⟩)) ?_;refine QC ?_;refine zD 13 ?_;refine Jx ?_;refine zp (Qd (fcb (KS l hc hg.1 hv.1) hle) rfl rfl rfl) ?_;refine Qy ?_;refine zD 18 ?_;refine YI ?_;refine zp (J7 rfl rfl rfl rfl (by exact rfl) (by decide) (by decide) (Qt3 p.v p.g s.acc)) ?_
 refine zp (QE hH (Qon l s (.ptr (Qe + 1) 0) [((Qe + 1), .var 137 (Jk p))] hH hc (hv.up (by decide)) (hg.up (by decide)) (ha.up (by decide))) rfl rfl rfl hH.pp) ?_;refine Wn ?_;refine QN hN [(Qe, Qe), ((Qe + 1), (Qe + 1))] (QjL l s { p with v := Qk l (Qk l p.v p.g) s.acc, ref := p.ref + 1 } hc hs0 hs1 hn0 hn1) (.fn _ _ _ _ rfl rfl) rfl rfl rfl ⟨rfl, rfl, rfl, rfl, rfl, rfl, trivial⟩ rfl ⟨rfl, rfl, trivial⟩ rfl rfl rfl rfl rfl rfl rfl rfl ?_;refine QC ?_
 refine QN hN [(Qe, Qe), ((Qe + 1), (Qe + 1))] (Qex l (Qc2 s { p with v := Qk l (Qk l p.v p.g) s.acc, ref := p.ref + 1 }) (Qbw l s { p with v := Qk l (Qk l p.v p.g) s.acc, ref := p.ref + 1 }) [] (XD.of rfl) hc h1 h2 hj Xv 98 [] (fun i _ => QeM (XD.of rfl) (i : Int)) rfl rfl rfl) (.fn _ _ _ _ rfl rfl) rfl rfl rfl ⟨rfl, rfl, rfl, rfl, rfl, rfl, trivial⟩ rfl ⟨Qi8 (Xc _), rfl, rfl, trivial⟩ rfl (Qhg (Xc _) rfl rfl) rfl rfl rfl rfl rfl rfl ?_;refine zT ?_
 refine Qx (Xl 2 2 rfl rfl (by rw [List.length_map]) (JN _) (Xc _) rfl) ?_;refine Qg ?_;change (Q7 _ _).ntt = _ ∧ _;refine Ja rfl ?_ rfl rfl rfl ⟨rfl, rfl, rfl, rfl, rfl, rfl, trivial⟩
 rfl
theorem Qrz (l : Qv) (s : Nd) (p : Pp) (hc : QB l = 0) (hv : El l 100000 p.v) : GC Tryz.prog 46 [.ptr Qe 0] [(Qe, .var 131 (Xy l s (.ptr (Qe + 1) 0))), ((Qe + 1), .var 137 (Jk p))] (.tup [.agg (QF p.v), i64 s.num, bl true]) [(Qe, .var 131 (Xy l s (.ptr (Qe + 1) 0))), ((Qe + 1), .var 137 (Jk p))] := by
 have hH : XD [(Qe, .var 131 (Xy l s (.ptr (Qe + 1) 0))), ((Qe + 1), .var 137 (Jk p))] := XD.of rfl
 refine YG [.c 2 30 4 true, .t 3, .t 4] ⟨⟨inferInstance, rfl⟩, trivial⟩ Tryz.func46 rfl rfl 24 Tryz.ntmps46 (Nat.le_of_ble_eq_true rfl) ?_
 intro E hN;refine WV ?_;refine zP (Yq rfl (by kernel_rfl) rfl rfl (.inr ⟨_, _, _, _, rfl, rfl, rfl⟩) (.inl ⟨rfl, rfl⟩)) ?_;refine QC ?_;refine Qhk 16 rfl (by kernel_rfl) (by kernel_rfl) (fun _ _ h => h) ?_;refine Xf 0 rfl (by kernel_rfl) (by kernel_rfl) rfl (JJ hN rfl rfl rfl rfl rfl rfl) ?_;refine Xf 1 rfl (by kernel_rfl) (by kernel_rfl) rfl (JJ hN rfl rfl rfl rfl rfl rfl) ?_;refine Xf 2 rfl (by kernel_rfl) (by kernel_rfl) rfl (Qcj hN rfl rfl rfl rfl rfl rfl rfl) ?_
 refine Xf 3 rfl (by kernel_rfl) (by kernel_rfl) rfl (XJ hN rfl rfl rfl rfl rfl rfl rfl rfl) ?_;refine Xf 9 rfl (by kernel_rfl) (by kernel_rfl) rfl (JJ hN rfl rfl rfl rfl rfl rfl) ?_;refine Xf 10 rfl (by kernel_rfl) (by kernel_rfl) rfl (Qcj hN rfl rfl rfl rfl rfl rfl rfl) ?_;refine Xf 11 rfl (by kernel_rfl) (by kernel_rfl) rfl (XJ hN rfl rfl rfl rfl rfl rfl rfl rfl) ?_;refine Jf [4, 12] (by kernel_rfl) rfl ⟨.inl (JA rfl ?_), .inl (JA rfl ?_), trivial⟩
 ·refine zl ?_;change AT _ _ _ _ _ _ _ _;refine Xf 5 rfl (by kernel_rfl) (by kernel_rfl) rfl (Qcj hN rfl rfl rfl rfl rfl rfl rfl) ?_;refine Xf 6 rfl (by kernel_rfl) (by kernel_rfl) rfl (XJ hN rfl rfl rfl rfl rfl rfl rfl rfl) ?_;refine Jf [7, 12] (by kernel_rfl) rfl ⟨.inl (JA rfl ?_), .inl (JA rfl ?_), trivial⟩
  ·refine zl ?_;change AT _ _ _ _ _ _ _ _;refine Jf [8, 12] (by kernel_rfl) rfl ⟨.inl (JA rfl ?_), .inl (JA rfl ?_), trivial⟩
   ·refine zp (QE hH (JH l s (.ptr (Qe + 1) 0) [((Qe + 1), .var 137 (Jk p))] hH hc hv) rfl rfl rfl hH.pp) ?_;change AT _ _ _ _ _ _ _ _;refine Jf [12, 13] (by kernel_rfl) rfl ⟨.inl (JA rfl ?_), .inr (K9 rfl rfl rfl rfl rfl rfl rfl (Nat.le_of_ble_eq_true rfl) rfl rfl rfl rfl ?_), trivial⟩
    ·refine zl ?_;change AT _ _ _ _ _ _ _ _;refine Jf [13] (by kernel_rfl) rfl ⟨.inr (K9 rfl rfl rfl rfl rfl rfl rfl (Nat.le_of_ble_eq_true rfl) rfl rfl rfl rfl ?_), trivial⟩;change AT _ _ _ _ _ _ _ _;refine Xf 14 rfl (by kernel_rfl) (by kernel_rfl) rfl (Yi hN rfl rfl rfl rfl rfl rfl) ?_;refine Xf 15 rfl (by kernel_rfl) (by kernel_rfl) rfl (Yi hN rfl rfl rfl rfl rfl rfl) ?_;refine QaT (by kernel_rfl) ?_;change Ym _ _ _ _ _;refine Qg ?_;change (resY _ _).bind AV.fzt = some _ ∧ _;refine K7 hH hH.pp rfl ?_
     rfl
    change AT _ _ _ _ _ _ _ _;refine Jf [12] (by kernel_rfl) rfl ⟨.inl (JA rfl ?_), trivial⟩;refine zl ?_;change AT _ _ _ _ _ _ _ _;refine Xf 14 rfl (by kernel_rfl) (by kernel_rfl) rfl (Yi hN rfl rfl rfl rfl rfl rfl) ?_;refine Xf 15 rfl (by kernel_rfl) (by kernel_rfl) rfl (Yi hN rfl rfl rfl rfl rfl rfl) ?_;refine QaT (by kernel_rfl) ?_;change Ym _ _ _ _ _;refine Qg ?_;change (resY _ _).bind AV.fzt = some _ ∧ _;refine K7 hH hH.pp rfl ?_
    rfl
   refine zl ?_;change AT _ _ _ _ _ _ _ _;refine Jf [8] (by kernel_rfl) rfl ⟨.inl (JA rfl ?_), trivial⟩;refine zp (QE hH (JH l s (.ptr (Qe + 1) 0) [((Qe + 1), .var 137 (Jk p))] hH hc hv) rfl rfl rfl hH.pp) ?_;change AT _ _ _ _ _ _ _ _;refine Jf [13] (by kernel_rfl) rfl ⟨.inr (K9 rfl rfl rfl rfl rfl rfl rfl (Nat.le_of_ble_eq_true rfl) rfl rfl rfl rfl ?_), trivial⟩;change AT _ _ _ _ _ _ _ _;refine Xf 14 rfl (by kernel_rfl) (by kernel_rfl) rfl (Yi hN rfl rfl rfl rfl rfl rfl) ?_
   refine Xf 15 rfl (by kernel_rfl) (by kernel_rfl) rfl (Yi hN rfl rfl rfl rfl rfl rfl) ?_;refine QaT (by kernel_rfl) ?_;change Ym _ _ _ _ _;refine Qg ?_;change (resY _ _).bind AV.fzt = some _ ∧ _;refine K7 hH hH.pp rfl ?_
   rfl
  refine zl ?_;change AT _ _ _ _ _ _ _ _;refine Jf [7] (by kernel_rfl) rfl ⟨.inl (JA rfl ?_), trivial⟩;refine zl ?_;change AT _ _ _ _ _ _ _ _;refine Jf [8] (by kernel_rfl) rfl ⟨.inl (JA rfl ?_), trivial⟩;refine zp (QE hH (JH l s (.ptr (Qe + 1) 0) [((Qe + 1), .var 137 (Jk p))] hH hc hv) rfl rfl rfl hH.pp) ?_;change AT _ _ _ _ _ _ _ _;refine Jf [13] (by kernel_rfl) rfl ⟨.inr (K9 rfl rfl rfl rfl rfl rfl rfl (Nat.le_of_ble_eq_true rfl) rfl rfl rfl rfl ?_), trivial⟩;change AT _ _ _ _ _ _ _ _
  refine Xf 14 rfl (by kernel_rfl) (by kernel_rfl) rfl (Yi hN rfl rfl rfl rfl rfl rfl) ?_;refine Xf 15 rfl (by kernel_rfl) (by kernel_rfl) rfl (Yi hN rfl rfl rfl rfl rfl rfl) ?_;refine QaT (by kernel_rfl) ?_;change Ym _ _ _ _ _;refine Qg ?_;change (resY _ _).bind AV.fzt = some _ ∧ _;refine K7 hH hH.pp rfl ?_
  rfl
 refine zl ?_;change AT _ _ _ _ _ _ _ _;refine Jf [4] (by kernel_rfl) rfl ⟨.inl (JA rfl ?_), trivial⟩;refine zl ?_;change AT _ _ _ _ _ _ _ _;refine Xf 5 rfl (by kernel_rfl) (by kernel_rfl) rfl (Qcj hN rfl rfl rfl rfl rfl rfl rfl) ?_;refine Xf 6 rfl (by kernel_rfl) (by kernel_rfl) rfl (XJ hN rfl rfl rfl rfl rfl rfl rfl rfl) ?_;refine Jf [7] (by kernel_rfl) rfl ⟨.inl (JA rfl ?_), trivial⟩;refine zl ?_;change AT _ _ _ _ _ _ _ _;refine Jf [8] (by kernel_rfl) rfl ⟨.inl (JA rfl ?_), trivial⟩
 refine zp (QE hH (JH l s (.ptr (Qe + 1) 0) [((Qe + 1), .var 137 (Jk p))] hH hc hv) rfl rfl rfl hH.pp) ?_;change AT _ _ _ _ _ _ _ _;refine Jf [13] (by kernel_rfl) rfl ⟨.inr (K9 rfl rfl rfl rfl rfl rfl rfl (Nat.le_of_ble_eq_true rfl) rfl rfl rfl rfl ?_), trivial⟩;change AT _ _ _ _ _ _ _ _;refine Xf 14 rfl (by kernel_rfl) (by kernel_rfl) rfl (Yi hN rfl rfl rfl rfl rfl rfl) ?_;refine Xf 15 rfl (by kernel_rfl) (by kernel_rfl) rfl (Yi hN rfl rfl rfl rfl rfl rfl) ?_;refine QaT (by kernel_rfl) ?_;change Ym _ _ _ _ _
 refine Qg ?_;change (resY _ _).bind AV.fzt = some _ ∧ _;refine K7 hH hH.pp rfl ?_
 rfl
end Go.Proofs.YtnkkokmmeplbgaaGreat
