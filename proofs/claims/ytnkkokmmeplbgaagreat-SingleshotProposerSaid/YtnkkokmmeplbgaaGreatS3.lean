/-
  Contracts: the proposer, at the states of the chapter's exam
-/
import Derived.Test.YtnkkokmmeplbgaaGreatS2
import Derived.Test.YtnkkokmmeplbgaaGreatA8
namespace Go.Proofs.YtnkkokmmeplbgaaGreat
set_option maxRecDepth 100000
set_option maxHeartbeats 1000000
open Go.RowKit
def sL : QD := .mk 4 0 0 [] [] []
def sA : Qw := .mk 0 [[97]] [] []
def sB : Qw := .mk 0 [[98]] [] []
def Y6 : Qw := .mk 0 [[97], [98]] [] []
theorem sCk : Xp sL = 0 := by decide
theorem sSm {v : Qw} (h : QbK v 40 = true) : J6 1000 v := (YB h).up (by decide)
abbrev PR (v : Qw) (k : Int) (r1 r2 : Bool) (a : Int) (ns : AV) (d : Bool) : List AV := [i64 4, i64 0, i64 0, X1 [], Qgi [], rus [], i64 1, i64 3, i64 2, i64 v.N, X1 v.nm, Qad v.ps, W7 v.es, i64 k, bl false, bl r1, bl r2, bl false, bl false, bl false, bl false, bl false, bl false, bl false, bl false, bl false, i64 a, ns, bl d]
theorem QiK : FC Tryz.prog 63 [.agg (Q2 sL), .agg (Qz sB), .agg (Qz sB)] (.agg (Qz sB)) := Qeg sL sB sB sCk (by decide) (by decide) (sSm (by kernel_rfl)) (sSm (by kernel_rfl))
theorem QrD : FC Tryz.prog 63 [.agg (Q2 sL), .agg (Qz sB), .agg (Qz Y6)] (.agg (Qz Y6)) := Qeg sL sB Y6 sCk (by decide) (by decide) (sSm (by kernel_rfl)) (sSm (by kernel_rfl))
theorem QcC : FC Tryz.prog 63 [.agg (Q2 sL), .agg (Qz Y6), .agg (Qz Y6)] (.agg (Qz Y6)) := Qeg sL Y6 Y6 sCk (by decide) (by decide) (sSm (by kernel_rfl)) (sSm (by kernel_rfl))
def bl3 (k : Int) (v : Qw) : List JR := [⟨1, 1, 0, k, v⟩, ⟨1, 1, 1, k, v⟩, ⟨1, 1, 2, k, v⟩]
theorem Qi1 : FN Tryz.prog 17 [.agg (Q2 sL), i64 1, i64 3, i64 2, .agg (Qz sB)] 118 (PR sB 1 false false 0 (.p (.slice none 0 0)) false) (i64 0) := by
 refine QeF 10 11 Tryz.func17 rfl rfl 47 Tryz.ntmps17 (Nat.le_of_ble_eq_true rfl) ?_
 intro E hN
 refine QaA ?_; refine XN ?_; refine zP (Qc (fcb (c := true) (KV sL sB) (by decide)) rfl rfl rfl) ?_; refine Q8 ?_
 refine Qd 9 (by kernel_rfl) (by kernel_rfl) ?_; refine Q4 ?_; refine zp (Qc QiK rfl rfl rfl) ?_; refine zp (JS rfl rfl rfl) ?_
 change Qj _ _ _ _ _ _; refine Qv ?_; refine Qh ?_
 exact ⟨2, _, _, rfl, rfl, rfl, rfl, rfl⟩
theorem Wt {v : Qw} {k a : Int} {r1 r2 d : Bool} (hp : FC Tryz.prog 63 [.agg (Q2 sL), .agg (Qz v), .agg (Qz v)] (.agg (Qz v))) : GC Tryz.prog 22 [.ptr QB 0] [(QB, .var 118 (PR v k r1 r2 a (.p (.slice none 0 0)) d))] (.agg (Qz v)) [(QB, .var 118 (PR v k r1 r2 a (.p (.slice none 0 0)) d))] := by
 refine KK [.c 2 30 4 true] ⟨⟨inferInstance, rfl⟩, trivial⟩ Tryz.func22 rfl rfl 16 Tryz.ntmps22 (Nat.le_of_ble_eq_true rfl) ?_
 intro E hN
 refine QF ?_; refine Qd 13 (by kernel_rfl) (by kernel_rfl) ?_; refine zm ?_; refine zp (Qe rfl rfl rfl) ?_; refine Qs ?_
 refine zp (Qe rfl rfl rfl) ?_; refine Qs ?_; refine zp (Qe rfl rfl rfl) ?_; refine Qu ?_; refine zp (Qc hp rfl rfl rfl) ?_
 change Qj _ _ _ _ _ _; refine Qu ?_; refine Qh ?_
 change (resY _ _).bind AV.fzt = some _ ∧ _
 refine WG rfl ?_ rfl ?_ rfl
 all_goals rfl
theorem QrB : GC Tryz.prog 23 [.ptr QB 0] [(QB, .var 118 (PR Y6 2 true true 2 (.p (.slice none 0 0)) true))] (i64 2) [(QB, .var 118 (PR Y6 2 true true 2 (.p (.slice none 0 0)) true))] := by
 refine XL [2] Tryz.func23 rfl rfl 7 Tryz.ntmps23 (Nat.le_of_ble_eq_true rfl) ?_
 intro E hN
 refine Q4 ?_; refine zP (Qe rfl rfl rfl) ?_; refine Qv ?_; refine Qh ?_
 change (Xa _ _).fzt = some _ ∧ _
 refine Jl rfl ?_ rfl ?_ rfl
 all_goals rfl
theorem Qr3 : GC Tryz.prog 25 [.ptr QB 0] [(QB, .var 118 (PR sB 1 false false 0 (.p (.slice none 0 0)) false))] (bals (bl3 1 sB)) [(QB, .var 118 (PR sB 1 false false 0 (.p (.slice none 0 0)) false))] := by
 refine XL [2] Tryz.func25 rfl rfl 43 Tryz.ntmps25 (Nat.le_of_ble_eq_true rfl) ?_
 intro E hN
 refine X6 ?_; refine zP (Qe rfl rfl rfl) ?_; refine QF ?_; refine QI (Qce rfl 3 54 8 rfl) ?_
 refine Ql (fun x : {i : Nat // i ≤ 3} => ⟨[(0, .ptr QB 0), (3, .sl (((bl3 1 sB).take x.1).map fun b => Jx b) (some 0)), (8, i64 3), (9, i64 (x.1 : Nat))], [(QB, .var 118 (PR sB 1 false false 0 (.p (.slice none 0 0)) false)), (0, .tok 54 8 ((bl3 1 sB).take x.1).length)], 1⟩) (fun x => 3 - x.1) (⟨0, by decide⟩) ?_ ?_
 ·
  exact Qa rfl (JH trivial) ⟨rfl, rfl, rfl, rfl, rfl, rfl, trivial⟩
 rintro ⟨i, hi⟩
 dsimp only
 rcases (show i = 0 ∨ i = 1 ∨ i = 2 ∨ i = 3 by omega) with rfl | rfl | rfl | rfl
 ·
  skip
  refine QeT ?_; refine zP (Qe rfl rfl rfl) ?_; refine Q8 ?_; refine zP (Qe rfl rfl rfl) ?_; refine zF ?_
  refine zP (Ky rfl rfl rfl 0 rfl (by decide) rfl rfl) ?_; refine QF ?_; refine Qd 14 (by kernel_rfl) (by kernel_rfl) ?_; refine Qu ?_
  refine zp (Qe rfl rfl rfl) ?_; refine Qv ?_; refine zp (Qe rfl rfl rfl) ?_; refine Qs ?_
  refine zp (WN QB (Wt QiK) rfl rfl rfl rfl rfl rfl rfl rfl rfl) ?_; refine zp (JS rfl rfl rfl) ?_
  refine zp (QE rfl rfl rfl rfl (by exact rfl) (by decide) (by decide)) ?_; change Qj _ _ _ _ _ _
  refine QG hN rfl rfl rfl rfl rfl rfl rfl rfl (by decide) rfl rfl rfl rfl ?_; refine Qs ?_; refine zP (QZ rfl rfl rfl (by decide)) ?_
  refine zM ?_; refine Qb ?_
  exact ⟨⟨1, by decide⟩, Qa rfl (JH trivial) ⟨rfl, rfl, rfl, rfl, rfl, rfl, trivial⟩, by decide⟩
 ·
  skip
  refine QeT ?_; refine zP (Qe rfl rfl rfl) ?_; refine Q8 ?_; refine zP (Qe rfl rfl rfl) ?_; refine zF ?_
  refine zP (Ky rfl rfl rfl 1 rfl (by decide) rfl rfl) ?_; refine QF ?_; refine Qd 14 (by kernel_rfl) (by kernel_rfl) ?_; refine Qu ?_
  refine zp (Qe rfl rfl rfl) ?_; refine Qv ?_; refine zp (Qe rfl rfl rfl) ?_; refine Qs ?_
  refine zp (WN QB (Wt QiK) rfl rfl rfl rfl rfl rfl rfl rfl rfl) ?_; refine zp (JS rfl rfl rfl) ?_
  refine zp (QE rfl rfl rfl rfl (by exact rfl) (by decide) (by decide)) ?_; change Qj _ _ _ _ _ _
  refine QG hN rfl rfl rfl rfl rfl rfl rfl rfl (by decide) rfl rfl rfl rfl ?_; refine Qs ?_; refine zP (QZ rfl rfl rfl (by decide)) ?_
  refine zM ?_; refine Qb ?_
  exact ⟨⟨2, by decide⟩, Qa rfl (JH trivial) ⟨rfl, rfl, rfl, rfl, rfl, rfl, trivial⟩, by decide⟩
 ·
  skip
  refine QeT ?_; refine zP (Qe rfl rfl rfl) ?_; refine Q8 ?_; refine zP (Qe rfl rfl rfl) ?_; refine zF ?_
  refine zP (Ky rfl rfl rfl 2 rfl (by decide) rfl rfl) ?_; refine QF ?_; refine Qd 14 (by kernel_rfl) (by kernel_rfl) ?_; refine Qu ?_
  refine zp (Qe rfl rfl rfl) ?_; refine Qv ?_; refine zp (Qe rfl rfl rfl) ?_; refine Qs ?_
  refine zp (WN QB (Wt QiK) rfl rfl rfl rfl rfl rfl rfl rfl rfl) ?_; refine zp (JS rfl rfl rfl) ?_
  refine zp (QE rfl rfl rfl rfl (by exact rfl) (by decide) (by decide)) ?_; change Qj _ _ _ _ _ _
  refine QG hN rfl rfl rfl rfl rfl rfl rfl rfl (by decide) rfl rfl rfl rfl ?_; refine Qs ?_; refine zP (QZ rfl rfl rfl (by decide)) ?_
  refine zM ?_; refine Qb ?_
  exact ⟨⟨3, by decide⟩, Qa rfl (JH trivial) ⟨rfl, rfl, rfl, rfl, rfl, rfl, trivial⟩, by decide⟩
 skip
 refine X6 ?_; refine Qh ?_
 change (Xa _ _).fzt = some _ ∧ _
 refine Jl rfl ?_ rfl ?_ rfl
 all_goals rfl
theorem QtM : GC Tryz.prog 25 [.ptr QB 0] [(QB, .var 118 (PR Y6 2 false false 0 (.p (.slice none 0 0)) false))] (bals (bl3 2 Y6)) [(QB, .var 118 (PR Y6 2 false false 0 (.p (.slice none 0 0)) false))] := by
 refine XL [2] Tryz.func25 rfl rfl 43 Tryz.ntmps25 (Nat.le_of_ble_eq_true rfl) ?_
 intro E hN
 refine X6 ?_; refine zP (Qe rfl rfl rfl) ?_; refine QF ?_; refine QI (Qce rfl 3 54 8 rfl) ?_
 refine Ql (fun x : {i : Nat // i ≤ 3} => ⟨[(0, .ptr QB 0), (3, .sl (((bl3 2 Y6).take x.1).map fun b => Jx b) (some 0)), (8, i64 3), (9, i64 (x.1 : Nat))], [(QB, .var 118 (PR Y6 2 false false 0 (.p (.slice none 0 0)) false)), (0, .tok 54 8 ((bl3 2 Y6).take x.1).length)], 1⟩) (fun x => 3 - x.1) (⟨0, by decide⟩) ?_ ?_
 ·
  exact Qa rfl (JH trivial) ⟨rfl, rfl, rfl, rfl, rfl, rfl, trivial⟩
 rintro ⟨i, hi⟩
 dsimp only
 rcases (show i = 0 ∨ i = 1 ∨ i = 2 ∨ i = 3 by omega) with rfl | rfl | rfl | rfl
 ·
  skip
  refine QeT ?_; refine zP (Qe rfl rfl rfl) ?_; refine Q8 ?_; refine zP (Qe rfl rfl rfl) ?_; refine zF ?_
  refine zP (Ky rfl rfl rfl 0 rfl (by decide) rfl rfl) ?_; refine QF ?_; refine Qd 14 (by kernel_rfl) (by kernel_rfl) ?_; refine Qu ?_
  refine zp (Qe rfl rfl rfl) ?_; refine Qv ?_; refine zp (Qe rfl rfl rfl) ?_; refine Qs ?_
  refine zp (WN QB (Wt QcC) rfl rfl rfl rfl rfl rfl rfl rfl rfl) ?_; refine zp (JS rfl rfl rfl) ?_
  refine zp (QE rfl rfl rfl rfl (by exact rfl) (by decide) (by decide)) ?_; change Qj _ _ _ _ _ _
  refine QG hN rfl rfl rfl rfl rfl rfl rfl rfl (by decide) rfl rfl rfl rfl ?_; refine Qs ?_; refine zP (QZ rfl rfl rfl (by decide)) ?_
  refine zM ?_; refine Qb ?_
  exact ⟨⟨1, by decide⟩, Qa rfl (JH trivial) ⟨rfl, rfl, rfl, rfl, rfl, rfl, trivial⟩, by decide⟩
 ·
  skip
  refine QeT ?_; refine zP (Qe rfl rfl rfl) ?_; refine Q8 ?_; refine zP (Qe rfl rfl rfl) ?_; refine zF ?_
  refine zP (Ky rfl rfl rfl 1 rfl (by decide) rfl rfl) ?_; refine QF ?_; refine Qd 14 (by kernel_rfl) (by kernel_rfl) ?_; refine Qu ?_
  refine zp (Qe rfl rfl rfl) ?_; refine Qv ?_; refine zp (Qe rfl rfl rfl) ?_; refine Qs ?_
  refine zp (WN QB (Wt QcC) rfl rfl rfl rfl rfl rfl rfl rfl rfl) ?_; refine zp (JS rfl rfl rfl) ?_
  refine zp (QE rfl rfl rfl rfl (by exact rfl) (by decide) (by decide)) ?_; change Qj _ _ _ _ _ _
  refine QG hN rfl rfl rfl rfl rfl rfl rfl rfl (by decide) rfl rfl rfl rfl ?_; refine Qs ?_; refine zP (QZ rfl rfl rfl (by decide)) ?_
  refine zM ?_; refine Qb ?_
  exact ⟨⟨2, by decide⟩, Qa rfl (JH trivial) ⟨rfl, rfl, rfl, rfl, rfl, rfl, trivial⟩, by decide⟩
 ·
  skip
  refine QeT ?_; refine zP (Qe rfl rfl rfl) ?_; refine Q8 ?_; refine zP (Qe rfl rfl rfl) ?_; refine zF ?_
  refine zP (Ky rfl rfl rfl 2 rfl (by decide) rfl rfl) ?_; refine QF ?_; refine Qd 14 (by kernel_rfl) (by kernel_rfl) ?_; refine Qu ?_
  refine zp (Qe rfl rfl rfl) ?_; refine Qv ?_; refine zp (Qe rfl rfl rfl) ?_; refine Qs ?_
  refine zp (WN QB (Wt QcC) rfl rfl rfl rfl rfl rfl rfl rfl rfl) ?_; refine zp (JS rfl rfl rfl) ?_
  refine zp (QE rfl rfl rfl rfl (by exact rfl) (by decide) (by decide)) ?_; change Qj _ _ _ _ _ _
  refine QG hN rfl rfl rfl rfl rfl rfl rfl rfl (by decide) rfl rfl rfl rfl ?_; refine Qs ?_; refine zP (QZ rfl rfl rfl (by decide)) ?_
  refine zM ?_; refine Qb ?_
  exact ⟨⟨3, by decide⟩, Qa rfl (JH trivial) ⟨rfl, rfl, rfl, rfl, rfl, rfl, trivial⟩, by decide⟩
 skip
 refine X6 ?_; refine Qh ?_
 change (Xa _ _).fzt = some _ ∧ _
 refine Jl rfl ?_ rfl ?_ rfl
 all_goals rfl
theorem QtV : GC Tryz.prog 25 [.ptr QB 0] [(QB, .var 118 (PR Y6 2 true true 2 (.p (.slice none 0 0)) true))] (.sl [] none) [(QB, .var 118 (PR Y6 2 true true 2 (.p (.slice none 0 0)) true))] := by
 refine XL [2] Tryz.func25 rfl rfl 43 Tryz.ntmps25 (Nat.le_of_ble_eq_true rfl) ?_
 intro E hN
 refine X6 ?_; refine zP (Qe rfl rfl rfl) ?_; refine QF ?_
 refine Ql (fun x : {i : Nat // i ≤ 3} => ⟨[(0, .ptr QB 0), (3, .p (.slice none 0 0)), (8, i64 3), (9, i64 (x.1 : Nat))], [(QB, .var 118 (PR Y6 2 true true 2 (.p (.slice none 0 0)) true))], 0⟩) (fun x => 3 - x.1) (⟨0, by decide⟩) ?_ ?_
 ·
  exact Qa rfl (JH trivial) ⟨rfl, rfl, rfl, trivial⟩
 rintro ⟨i, hi⟩
 dsimp only
 refine QF ?_
 refine zq ?_ ?_ <;> intro h8
 rotate_left
 ·
  refine Q8 ?_; refine Qh ?_
  change (Xa _ _).fzt = some _ ∧ _
  refine Jl rfl ?_ rfl ?_ rfl
  all_goals rfl
 have hlt : i < 3 := by have := of_decide_eq_true h8; omega
 refine Jv ?_; refine zP (Qe rfl rfl rfl) ?_; refine QeU ?_; refine Qb ?_
 exact ⟨⟨i + 1, by omega⟩, Qa rfl (JO ⟨(Q0 (by dsimp only; omega)), rfl, trivial⟩) ⟨rfl, rfl, rfl, trivial⟩, by dsimp only; omega⟩
theorem QqV : GC Tryz.prog 19 [.ptr QB 0] [(QB, .var 118 (PR Y6 2 true true 2 (.p (.slice none 0 0)) true))] (.tup [.agg (Qz Y6), bl true]) [(QB, .var 118 (PR Y6 2 true true 2 (.p (.slice none 0 0)) true))] := by
 refine KK [.c 2 30 4 true, .t 3] ⟨⟨inferInstance, rfl⟩, trivial⟩ Tryz.func19 rfl rfl 12 Tryz.ntmps19 (Nat.le_of_ble_eq_true rfl) ?_
 intro E hN
 refine JA ?_; refine zP (Qe rfl rfl rfl) ?_; refine JA ?_
 refine XO hN QB (Wt QcC) (.fn _ _ _ _ rfl rfl) rfl rfl rfl rfl rfl rfl rfl rfl rfl rfl rfl ?_; refine Qs ?_; refine Qh ?_
 change (resY _ _).bind AV.fzt = some _ ∧ _
 refine WG rfl ?_ rfl ?_ rfl
 all_goals rfl
theorem chk1 : GC Tryz.prog 68 [.ptr QB 0, .agg (Jx (⟨3, 1, 1, 1, Y6⟩ : JR))] [(QB, .var 118 (PR sB 1 false false 0 (.p (.slice none 0 0)) false))] (i64 0) [(QB, .var 118 (PR sB 1 false false 0 (.p (.slice none 0 0)) false))] := by
 refine XL [4] Tryz.func68 rfl rfl 72 Tryz.ntmps68 (Nat.le_of_ble_eq_true rfl) ?_
 intro E hN
 refine Q4 ?_; refine Qd 25 (by kernel_rfl) (by kernel_rfl) ?_; refine Qs ?_; refine zp (Qe rfl rfl rfl) ?_; refine X6 ?_
 refine zp (Qe rfl rfl rfl) ?_; refine XN ?_; change Qj _ _ _ _ _ _; refine QaA ?_; refine Qd 7 (by kernel_rfl) (by kernel_rfl) ?_
 refine zm ?_; refine zp (Qe rfl rfl rfl) ?_; refine Qv ?_; refine zp (Qc (fcb (c := true) (KV sL Y6) (by decide)) rfl rfl rfl) ?_
 change Qj _ _ _ _ _ _; refine Q8 ?_; refine Qd 21 (by kernel_rfl) (by kernel_rfl) ?_; refine zm ?_; refine zp (Qe rfl rfl rfl) ?_
 refine Q8 ?_; refine zp (Qe rfl rfl rfl) ?_; refine XN ?_; refine zp (Qe rfl rfl rfl) ?_; refine zf ?_
 refine zp (Ky rfl rfl rfl 1 rfl (by decide) rfl rfl) ?_; refine zl ?_; change Qj _ _ _ _ _ _; refine XN ?_; refine Qh ?_
 change (Xa _ _).fzt = some _ ∧ _
 refine Jl rfl ?_ rfl ?_ rfl
 all_goals rfl
theorem chk2 : GC Tryz.prog 68 [.ptr QB 0, .agg (Jx (⟨3, 1, 1, 1, Y6⟩ : JR))] [(QB, .var 118 (PR sB 1 true false 0 (.sl [Qz Y6] none) false))] (i64 11) [(QB, .var 118 (PR sB 1 true false 0 (.sl [Qz Y6] none) false))] := by
 refine XL [4] Tryz.func68 rfl rfl 72 Tryz.ntmps68 (Nat.le_of_ble_eq_true rfl) ?_
 intro E hN
 refine Q4 ?_; refine Qd 25 (by kernel_rfl) (by kernel_rfl) ?_; refine Qs ?_; refine zp (Qe rfl rfl rfl) ?_; refine X6 ?_
 refine zp (Qe rfl rfl rfl) ?_; refine XN ?_; change Qj _ _ _ _ _ _; refine QaA ?_; refine Qd 7 (by kernel_rfl) (by kernel_rfl) ?_
 refine zm ?_; refine zp (Qe rfl rfl rfl) ?_; refine Qv ?_; refine zp (Qc (fcb (c := true) (KV sL Y6) (by decide)) rfl rfl rfl) ?_
 change Qj _ _ _ _ _ _; refine Q8 ?_; refine Qd 21 (by kernel_rfl) (by kernel_rfl) ?_; refine zm ?_; refine zp (Qe rfl rfl rfl) ?_
 refine Q8 ?_; refine zp (Qe rfl rfl rfl) ?_; refine XN ?_; refine zp (Qe rfl rfl rfl) ?_; refine zf ?_
 refine zp (Ky rfl rfl rfl 1 rfl (by decide) rfl rfl) ?_; refine zl ?_; change Qj _ _ _ _ _ _; refine Q4 ?_; refine Qh ?_
 change (Xa _ _).fzt = some _ ∧ _
 refine Jl rfl ?_ rfl ?_ rfl
 all_goals rfl
theorem chk3 : GC Tryz.prog 68 [.ptr QB 0, .agg (Jx (⟨2, 2, 1, 1, Qw.zero⟩ : JR))] [(QB, .var 118 (PR sB 1 true false 0 (.sl [Qz Y6] none) false))] (i64 0) [(QB, .var 118 (PR sB 1 true false 0 (.sl [Qz Y6] none) false))] := by
 refine XL [4] Tryz.func68 rfl rfl 72 Tryz.ntmps68 (Nat.le_of_ble_eq_true rfl) ?_
 intro E hN
 refine Q4 ?_; refine Qd 25 (by kernel_rfl) (by kernel_rfl) ?_; refine Qs ?_; refine zp (Qe rfl rfl rfl) ?_; refine X6 ?_
 refine zp (Qe rfl rfl rfl) ?_; refine XN ?_; change Qj _ _ _ _ _ _; refine Qo9 ?_
 refine zP (Qc (fcb (c := true) (QbU Qw.zero Qw.zero) (by decide)) rfl rfl rfl) ?_; refine Q8 ?_
 refine Qd 21 (by kernel_rfl) (by kernel_rfl) ?_; refine zm ?_; refine zp (Qe rfl rfl rfl) ?_; refine Q8 ?_; refine zp (Qe rfl rfl rfl) ?_
 refine XN ?_; refine zp (Qe rfl rfl rfl) ?_; refine zf ?_; refine zp (Ky rfl rfl rfl 2 rfl (by decide) rfl rfl) ?_; refine zl ?_
 change Qj _ _ _ _ _ _; refine XN ?_; refine Qh ?_
 change (Xa _ _).fzt = some _ ∧ _
 refine Jl rfl ?_ rfl ?_ rfl
 all_goals rfl
theorem chk4 : GC Tryz.prog 68 [.ptr QB 0, .agg (Jx (⟨2, 1, 1, 2, Qw.zero⟩ : JR))] [(QB, .var 118 (PR Y6 2 false false 0 (.p (.slice none 0 0)) false))] (i64 0) [(QB, .var 118 (PR Y6 2 false false 0 (.p (.slice none 0 0)) false))] := by
 refine XL [4] Tryz.func68 rfl rfl 72 Tryz.ntmps68 (Nat.le_of_ble_eq_true rfl) ?_
 intro E hN
 refine Q4 ?_; refine Qd 25 (by kernel_rfl) (by kernel_rfl) ?_; refine Qs ?_; refine zp (Qe rfl rfl rfl) ?_; refine X6 ?_
 refine zp (Qe rfl rfl rfl) ?_; refine XN ?_; change Qj _ _ _ _ _ _; refine Qo9 ?_
 refine zP (Qc (fcb (c := true) (QbU Qw.zero Qw.zero) (by decide)) rfl rfl rfl) ?_; refine Q8 ?_
 refine Qd 21 (by kernel_rfl) (by kernel_rfl) ?_; refine zm ?_; refine zp (Qe rfl rfl rfl) ?_; refine Q8 ?_; refine zp (Qe rfl rfl rfl) ?_
 refine XN ?_; refine zp (Qe rfl rfl rfl) ?_; refine zf ?_; refine zp (Ky rfl rfl rfl 1 rfl (by decide) rfl rfl) ?_; refine zl ?_
 change Qj _ _ _ _ _ _; refine XN ?_; refine Qh ?_
 change (Xa _ _).fzt = some _ ∧ _
 refine Jl rfl ?_ rfl ?_ rfl
 all_goals rfl
theorem chk5 : GC Tryz.prog 68 [.ptr QB 0, .agg (Jx (⟨2, 1, 1, 2, Qw.zero⟩ : JR))] [(QB, .var 118 (PR Y6 2 true false 1 (.p (.slice none 0 0)) false))] (i64 11) [(QB, .var 118 (PR Y6 2 true false 1 (.p (.slice none 0 0)) false))] := by
 refine XL [4] Tryz.func68 rfl rfl 72 Tryz.ntmps68 (Nat.le_of_ble_eq_true rfl) ?_
 intro E hN
 refine Q4 ?_; refine Qd 25 (by kernel_rfl) (by kernel_rfl) ?_; refine Qs ?_; refine zp (Qe rfl rfl rfl) ?_; refine X6 ?_
 refine zp (Qe rfl rfl rfl) ?_; refine XN ?_; change Qj _ _ _ _ _ _; refine Qo9 ?_
 refine zP (Qc (fcb (c := true) (QbU Qw.zero Qw.zero) (by decide)) rfl rfl rfl) ?_; refine Q8 ?_
 refine Qd 21 (by kernel_rfl) (by kernel_rfl) ?_; refine zm ?_; refine zp (Qe rfl rfl rfl) ?_; refine Q8 ?_; refine zp (Qe rfl rfl rfl) ?_
 refine XN ?_; refine zp (Qe rfl rfl rfl) ?_; refine zf ?_; refine zp (Ky rfl rfl rfl 1 rfl (by decide) rfl rfl) ?_; refine zl ?_
 change Qj _ _ _ _ _ _; refine Q4 ?_; refine Qh ?_
 change (Xa _ _).fzt = some _ ∧ _
 refine Jl rfl ?_ rfl ?_ rfl
 all_goals rfl
theorem chk6 : GC Tryz.prog 68 [.ptr QB 0, .agg (Jx (⟨2, 2, 1, 2, Qw.zero⟩ : JR))] [(QB, .var 118 (PR Y6 2 true false 1 (.p (.slice none 0 0)) false))] (i64 0) [(QB, .var 118 (PR Y6 2 true false 1 (.p (.slice none 0 0)) false))] := by
 refine XL [4] Tryz.func68 rfl rfl 72 Tryz.ntmps68 (Nat.le_of_ble_eq_true rfl) ?_
 intro E hN
 refine Q4 ?_; refine Qd 25 (by kernel_rfl) (by kernel_rfl) ?_; refine Qs ?_; refine zp (Qe rfl rfl rfl) ?_; refine X6 ?_
 refine zp (Qe rfl rfl rfl) ?_; refine XN ?_; change Qj _ _ _ _ _ _; refine Qo9 ?_
 refine zP (Qc (fcb (c := true) (QbU Qw.zero Qw.zero) (by decide)) rfl rfl rfl) ?_; refine Q8 ?_
 refine Qd 21 (by kernel_rfl) (by kernel_rfl) ?_; refine zm ?_; refine zp (Qe rfl rfl rfl) ?_; refine Q8 ?_; refine zp (Qe rfl rfl rfl) ?_
 refine XN ?_; refine zp (Qe rfl rfl rfl) ?_; refine zf ?_; refine zp (Ky rfl rfl rfl 2 rfl (by decide) rfl rfl) ?_; refine zl ?_
 change Qj _ _ _ _ _ _; refine XN ?_; refine Qh ?_
 change (Xa _ _).fzt = some _ ∧ _
 refine Jl rfl ?_ rfl ?_ rfl
 all_goals rfl
theorem Qrp : GC Tryz.prog 69 [.ptr QB 0] [(QB, .var 118 (PR sB 1 true true 1 (.sl [Qz Y6] none) false))] (.tup []) [(QB, .var 118 (PR Y6 2 false false 0 (.p (.slice none 0 0)) false))] := by
 refine XL [] Tryz.func69 rfl rfl 44 Tryz.ntmps69 (Nat.le_of_ble_eq_true rfl) ?_
 intro E hN
 refine Qv ?_; refine zP (Qe rfl rfl rfl) ?_; refine Q8 ?_
 refine Ql (fun x : {i : Nat // i ≤ 1} => ⟨[(0, .ptr QB 0), (7, .sl [Qz Y6] none), (8, i64 1), (9, i64 (x.1 : Nat))], [(QB, .var 118 (PR (if x.1 = 0 then sB else Y6) 1 true true 1 (.sl [Qz Y6] none) false))], 0⟩) (fun x => 1 - x.1) (⟨0, by decide⟩) ?_ ?_
 ·
  exact Qa rfl (JH trivial) ⟨rfl, rfl, rfl, trivial⟩
 rintro ⟨i, hi⟩
 dsimp only
 rcases (show i = 0 ∨ i = 1 by omega) with rfl | rfl
 ·
  skip
  refine Jv ?_; refine zP (Qf rfl rfl rfl 0 rfl (Qz Y6) rfl (by exact rfl)) ?_; refine Qv ?_
  refine Qd 13 (by kernel_rfl) (by kernel_rfl) ?_; refine Qu ?_; refine zp (Qe rfl rfl rfl) ?_; refine Qs ?_
  refine zp (Qe rfl rfl rfl) ?_; refine Qs ?_; refine zp (Qc QrD rfl rfl rfl) ?_; refine zp (Qe rfl rfl rfl) ?_; refine zf ?_
  change Qj _ _ _ _ _ _; refine Qs ?_; refine zP (QZ rfl rfl rfl (by decide)) ?_; refine zM ?_; refine Qb ?_
  exact ⟨⟨1, by decide⟩, Qa rfl (JH trivial) ⟨rfl, rfl, rfl, trivial⟩, by decide⟩
 skip
 refine XB ?_; refine zP (Qe rfl rfl rfl) ?_; refine Qu ?_; refine zP (QZ rfl rfl rfl (by decide)) ?_; refine zP (Qe rfl rfl rfl) ?_
 refine Q4 ?_; refine zP (QjM rfl) ?_; refine zP (Qe rfl rfl rfl) ?_; refine Qu ?_; refine zP (Qe rfl rfl rfl) ?_; refine Qu ?_
 refine zP (Qe rfl rfl rfl) ?_; refine Qu ?_; refine Qb ?_
 change (Xa _ _).fzt = some _ ∧ _
 refine Jl rfl ?_ rfl ?_ rfl
 all_goals rfl
theorem rec1 : GC Tryz.prog 27 [.ptr QB 0, .agg (Jx (⟨3, 1, 1, 1, Y6⟩ : JR))] [(QB, .var 118 (PR sB 1 false false 0 (.p (.slice none 0 0)) false))] (i64 0) [(QB, .var 118 (PR sB 1 true false 0 (.sl [Qz Y6] none) false))] := by
 refine XL [4] Tryz.func27 rfl rfl 76 Tryz.ntmps27 (Nat.le_of_ble_eq_true rfl) ?_
 intro E hN
 refine XB ?_; refine XO hN QB chk1 (.fn _ _ _ _ rfl rfl) rfl rfl rfl rfl rfl rfl rfl rfl rfl rfl rfl ?_; refine XB ?_
 refine Qd 6 (by kernel_rfl) (by kernel_rfl) ?_; refine Qs ?_; refine zp (Qe rfl rfl rfl) ?_; refine zf ?_
 refine zp (Ky rfl rfl rfl 1 rfl (by decide) rfl rfl) ?_; change Qj _ _ _ _ _ _; refine XB ?_
 refine QcO 15 6 #[true, true, true, true, true, true, true, true, true, true, true, true, true, true, true, false, false, false, false, false, false] (by kernel_rfl) (by kernel_rfl) (by kernel_rfl) (by kernel_rfl) (by kernel_rfl) (by kernel_rfl) ?_
 refine zm ?_; refine zp (Qe rfl rfl rfl) ?_; refine Qs ?_; refine zp (Qe rfl rfl rfl) ?_; refine Q8 ?_
 refine zp (Qc QcC rfl rfl rfl) ?_; refine ze ?_; refine zp (QE rfl rfl rfl rfl (by exact rfl) (by decide) (by decide)) ?_
 refine ⟨_, WT rfl 31 30 4 rfl, ?_⟩
 refine Qy [15] (by kernel_rfl) rfl ⟨.inr (.inr (Qa2 hN rfl rfl rfl rfl rfl rfl rfl rfl (by decide) rfl rfl rfl rfl ?_)), trivial⟩
 change AN _ _ _ _ _ _ _ _
 refine Qy [16, 18] (by kernel_rfl) rfl ⟨.inl (QK rfl ?_), .inl (QK rfl ?_), trivial⟩
 ·
  refine zp (Xg (q := 1) (m := 1) rfl rfl rfl rfl rfl 0 rfl (by decide)) ?_
  change AN _ _ _ _ _ _ _ _
  refine Qy [17, 18] (by kernel_rfl) rfl ⟨.inr (.inl (QV rfl rfl rfl rfl rfl 0 rfl (by decide) rfl rfl rfl rfl (by simp [Qo]) rfl rfl rfl rfl ?_)), .inl (QK rfl ?_), trivial⟩
  ·
   change AN _ _ _ _ _ _ _ _
   refine Qy [18] (by kernel_rfl) rfl ⟨.inl (QK rfl ?_), trivial⟩
   refine zp (Qe rfl rfl rfl) ?_
   change AN _ _ _ _ _ _ _ _
   refine Qy [19] (by kernel_rfl) rfl ⟨.inl (QK rfl ?_), trivial⟩
   refine zf ?_
   change AN _ _ _ _ _ _ _ _
   refine Qy [20] (by kernel_rfl) rfl ⟨.inr (.inl (Xz rfl rfl rfl rfl rfl rfl rfl (Nat.le_of_ble_eq_true rfl) rfl rfl rfl rfl ?_)), trivial⟩
   change AN _ _ _ _ _ _ _ _
   refine Xq (by kernel_rfl) ?_; change Ya _ _ _ _ _; refine Qu ?_
   refine QI (Yo QB 27 1 rfl rfl rfl rfl rfl rfl (fun e he => by simp [Qo] at he; subst he; rfl) rfl) ?_
   refine Qd 8 (by kernel_rfl) (by kernel_rfl) ?_; refine zm ?_; refine zp (Qe rfl rfl rfl) ?_; refine Qs ?_
   refine zp (Qe rfl rfl rfl) ?_; refine Qu ?_; change Qj _ _ _ _ _ _; refine Qv ?_; refine Qd 14 (by kernel_rfl) (by kernel_rfl) ?_
   refine zm ?_; refine zp (Qe rfl rfl rfl) ?_; refine Qs ?_; refine zp (Qe rfl rfl rfl) ?_; refine Qs ?_
   refine zp (QZ rfl rfl rfl (by decide)) ?_; refine zm ?_; refine zp (Qe rfl rfl rfl) ?_; refine Qu ?_; change Qj _ _ _ _ _ _; refine XN ?_
   refine Qh ?_
   change (Xa _ _).fzt = some _ ∧ _
   refine Jl rfl ?_ rfl ?_ rfl
   all_goals rfl
  refine zp (Qe rfl rfl rfl) ?_
  change AN _ _ _ _ _ _ _ _
  refine Qy [17, 19] (by kernel_rfl) rfl ⟨.inr (.inl (QV rfl rfl rfl rfl rfl 0 rfl (by decide) rfl rfl rfl rfl (by simp [Qo]) rfl rfl rfl rfl ?_)), .inl (QK rfl ?_), trivial⟩
  ·
   change AN _ _ _ _ _ _ _ _
   refine Qy [19] (by kernel_rfl) rfl ⟨.inl (QK rfl ?_), trivial⟩
   refine zf ?_
   change AN _ _ _ _ _ _ _ _
   refine Qy [20] (by kernel_rfl) rfl ⟨.inr (.inl (Xz rfl rfl rfl rfl rfl rfl rfl (Nat.le_of_ble_eq_true rfl) rfl rfl rfl rfl ?_)), trivial⟩
   change AN _ _ _ _ _ _ _ _
   refine Xq (by kernel_rfl) ?_; change Ya _ _ _ _ _; refine Qu ?_
   refine QI (Yo QB 27 1 rfl rfl rfl rfl rfl rfl (fun e he => by simp [Qo] at he; subst he; rfl) rfl) ?_
   refine Qd 8 (by kernel_rfl) (by kernel_rfl) ?_; refine zm ?_; refine zp (Qe rfl rfl rfl) ?_; refine Qs ?_
   refine zp (Qe rfl rfl rfl) ?_; refine Qu ?_; change Qj _ _ _ _ _ _; refine Qv ?_; refine Qd 14 (by kernel_rfl) (by kernel_rfl) ?_
   refine zm ?_; refine zp (Qe rfl rfl rfl) ?_; refine Qs ?_; refine zp (Qe rfl rfl rfl) ?_; refine Qs ?_
   refine zp (QZ rfl rfl rfl (by decide)) ?_; refine zm ?_; refine zp (Qe rfl rfl rfl) ?_; refine Qu ?_; change Qj _ _ _ _ _ _; refine XN ?_
   refine Qh ?_
   change (Xa _ _).fzt = some _ ∧ _
   refine Jl rfl ?_ rfl ?_ rfl
   all_goals rfl
  refine zf ?_
  change AN _ _ _ _ _ _ _ _
  refine Qy [17, 20] (by kernel_rfl) rfl ⟨.inr (.inl (QV rfl rfl rfl rfl rfl 0 rfl (by decide) rfl rfl rfl rfl (by simp [Qo]) rfl rfl rfl rfl ?_)), .inr (.inl (Xz rfl rfl rfl rfl rfl rfl rfl (Nat.le_of_ble_eq_true rfl) rfl rfl rfl rfl ?_)), trivial⟩
  ·
   change AN _ _ _ _ _ _ _ _
   refine Qy [20] (by kernel_rfl) rfl ⟨.inr (.inl (Xz rfl rfl rfl rfl rfl rfl rfl (Nat.le_of_ble_eq_true rfl) rfl rfl rfl rfl ?_)), trivial⟩
   change AN _ _ _ _ _ _ _ _
   refine Xq (by kernel_rfl) ?_; change Ya _ _ _ _ _; refine Qu ?_
   refine QI (Yo QB 27 1 rfl rfl rfl rfl rfl rfl (fun e he => by simp [Qo] at he; subst he; rfl) rfl) ?_
   refine Qd 8 (by kernel_rfl) (by kernel_rfl) ?_; refine zm ?_; refine zp (Qe rfl rfl rfl) ?_; refine Qs ?_
   refine zp (Qe rfl rfl rfl) ?_; refine Qu ?_; change Qj _ _ _ _ _ _; refine Qv ?_; refine Qd 14 (by kernel_rfl) (by kernel_rfl) ?_
   refine zm ?_; refine zp (Qe rfl rfl rfl) ?_; refine Qs ?_; refine zp (Qe rfl rfl rfl) ?_; refine Qs ?_
   refine zp (QZ rfl rfl rfl (by decide)) ?_; refine zm ?_; refine zp (Qe rfl rfl rfl) ?_; refine Qu ?_; change Qj _ _ _ _ _ _; refine XN ?_
   refine Qh ?_
   change (Xa _ _).fzt = some _ ∧ _
   refine Jl rfl ?_ rfl ?_ rfl
   all_goals rfl
  change AN _ _ _ _ _ _ _ _
  refine Qy [17] (by kernel_rfl) rfl ⟨.inr (.inl (QV rfl rfl rfl rfl rfl 0 rfl (by decide) rfl rfl rfl rfl (by simp [Qo]) rfl rfl rfl rfl ?_)), trivial⟩
  change AN _ _ _ _ _ _ _ _
  refine Xq (by kernel_rfl) ?_; change Ya _ _ _ _ _; refine Qu ?_
  refine QI (Yo QB 27 1 rfl rfl rfl rfl rfl rfl (fun e he => by simp [Qo] at he; subst he; rfl) rfl) ?_
  refine Qd 8 (by kernel_rfl) (by kernel_rfl) ?_; refine zm ?_; refine zp (Qe rfl rfl rfl) ?_; refine Qs ?_; refine zp (Qe rfl rfl rfl) ?_
  refine Qu ?_; change Qj _ _ _ _ _ _; refine Qv ?_; refine Qd 14 (by kernel_rfl) (by kernel_rfl) ?_; refine zm ?_
  refine zp (Qe rfl rfl rfl) ?_; refine Qs ?_; refine zp (Qe rfl rfl rfl) ?_; refine Qs ?_; refine zp (QZ rfl rfl rfl (by decide)) ?_
  refine zm ?_; refine zp (Qe rfl rfl rfl) ?_; refine Qu ?_; change Qj _ _ _ _ _ _; refine XN ?_; refine Qh ?_
  change (Xa _ _).fzt = some _ ∧ _
  refine Jl rfl ?_ rfl ?_ rfl
  all_goals rfl
 refine zp (Qe rfl rfl rfl) ?_
 change AN _ _ _ _ _ _ _ _
 refine Qy [16, 19] (by kernel_rfl) rfl ⟨.inl (QK rfl ?_), .inl (QK rfl ?_), trivial⟩
 ·
  refine zp (Xg (q := 1) (m := 1) rfl rfl rfl rfl rfl 0 rfl (by decide)) ?_
  change AN _ _ _ _ _ _ _ _
  refine Qy [17, 19] (by kernel_rfl) rfl ⟨.inr (.inl (QV rfl rfl rfl rfl rfl 0 rfl (by decide) rfl rfl rfl rfl (by simp [Qo]) rfl rfl rfl rfl ?_)), .inl (QK rfl ?_), trivial⟩
  ·
   change AN _ _ _ _ _ _ _ _
   refine Qy [19] (by kernel_rfl) rfl ⟨.inl (QK rfl ?_), trivial⟩
   refine zf ?_
   change AN _ _ _ _ _ _ _ _
   refine Qy [20] (by kernel_rfl) rfl ⟨.inr (.inl (Xz rfl rfl rfl rfl rfl rfl rfl (Nat.le_of_ble_eq_true rfl) rfl rfl rfl rfl ?_)), trivial⟩
   change AN _ _ _ _ _ _ _ _
   refine Xq (by kernel_rfl) ?_; change Ya _ _ _ _ _; refine Qu ?_
   refine QI (Yo QB 27 1 rfl rfl rfl rfl rfl rfl (fun e he => by simp [Qo] at he; subst he; rfl) rfl) ?_
   refine Qd 8 (by kernel_rfl) (by kernel_rfl) ?_; refine zm ?_; refine zp (Qe rfl rfl rfl) ?_; refine Qs ?_
   refine zp (Qe rfl rfl rfl) ?_; refine Qu ?_; change Qj _ _ _ _ _ _; refine Qv ?_; refine Qd 14 (by kernel_rfl) (by kernel_rfl) ?_
   refine zm ?_; refine zp (Qe rfl rfl rfl) ?_; refine Qs ?_; refine zp (Qe rfl rfl rfl) ?_; refine Qs ?_
   refine zp (QZ rfl rfl rfl (by decide)) ?_; refine zm ?_; refine zp (Qe rfl rfl rfl) ?_; refine Qu ?_; change Qj _ _ _ _ _ _; refine XN ?_
   refine Qh ?_
   change (Xa _ _).fzt = some _ ∧ _
   refine Jl rfl ?_ rfl ?_ rfl
   all_goals rfl
  refine zf ?_
  change AN _ _ _ _ _ _ _ _
  refine Qy [17, 20] (by kernel_rfl) rfl ⟨.inr (.inl (QV rfl rfl rfl rfl rfl 0 rfl (by decide) rfl rfl rfl rfl (by simp [Qo]) rfl rfl rfl rfl ?_)), .inr (.inl (Xz rfl rfl rfl rfl rfl rfl rfl (Nat.le_of_ble_eq_true rfl) rfl rfl rfl rfl ?_)), trivial⟩
  ·
   change AN _ _ _ _ _ _ _ _
   refine Qy [20] (by kernel_rfl) rfl ⟨.inr (.inl (Xz rfl rfl rfl rfl rfl rfl rfl (Nat.le_of_ble_eq_true rfl) rfl rfl rfl rfl ?_)), trivial⟩
   change AN _ _ _ _ _ _ _ _
   refine Xq (by kernel_rfl) ?_; change Ya _ _ _ _ _; refine Qu ?_
   refine QI (Yo QB 27 1 rfl rfl rfl rfl rfl rfl (fun e he => by simp [Qo] at he; subst he; rfl) rfl) ?_
   refine Qd 8 (by kernel_rfl) (by kernel_rfl) ?_; refine zm ?_; refine zp (Qe rfl rfl rfl) ?_; refine Qs ?_
   refine zp (Qe rfl rfl rfl) ?_; refine Qu ?_; change Qj _ _ _ _ _ _; refine Qv ?_; refine Qd 14 (by kernel_rfl) (by kernel_rfl) ?_
   refine zm ?_; refine zp (Qe rfl rfl rfl) ?_; refine Qs ?_; refine zp (Qe rfl rfl rfl) ?_; refine Qs ?_
   refine zp (QZ rfl rfl rfl (by decide)) ?_; refine zm ?_; refine zp (Qe rfl rfl rfl) ?_; refine Qu ?_; change Qj _ _ _ _ _ _; refine XN ?_
   refine Qh ?_
   change (Xa _ _).fzt = some _ ∧ _
   refine Jl rfl ?_ rfl ?_ rfl
   all_goals rfl
  change AN _ _ _ _ _ _ _ _
  refine Qy [17] (by kernel_rfl) rfl ⟨.inr (.inl (QV rfl rfl rfl rfl rfl 0 rfl (by decide) rfl rfl rfl rfl (by simp [Qo]) rfl rfl rfl rfl ?_)), trivial⟩
  change AN _ _ _ _ _ _ _ _
  refine Xq (by kernel_rfl) ?_; change Ya _ _ _ _ _; refine Qu ?_
  refine QI (Yo QB 27 1 rfl rfl rfl rfl rfl rfl (fun e he => by simp [Qo] at he; subst he; rfl) rfl) ?_
  refine Qd 8 (by kernel_rfl) (by kernel_rfl) ?_; refine zm ?_; refine zp (Qe rfl rfl rfl) ?_; refine Qs ?_; refine zp (Qe rfl rfl rfl) ?_
  refine Qu ?_; change Qj _ _ _ _ _ _; refine Qv ?_; refine Qd 14 (by kernel_rfl) (by kernel_rfl) ?_; refine zm ?_
  refine zp (Qe rfl rfl rfl) ?_; refine Qs ?_; refine zp (Qe rfl rfl rfl) ?_; refine Qs ?_; refine zp (QZ rfl rfl rfl (by decide)) ?_
  refine zm ?_; refine zp (Qe rfl rfl rfl) ?_; refine Qu ?_; change Qj _ _ _ _ _ _; refine XN ?_; refine Qh ?_
  change (Xa _ _).fzt = some _ ∧ _
  refine Jl rfl ?_ rfl ?_ rfl
  all_goals rfl
 refine zf ?_
 change AN _ _ _ _ _ _ _ _
 refine Qy [16, 20] (by kernel_rfl) rfl ⟨.inl (QK rfl ?_), .inr (.inl (Xz rfl rfl rfl rfl rfl rfl rfl (Nat.le_of_ble_eq_true rfl) rfl rfl rfl rfl ?_)), trivial⟩
 ·
  refine zp (Xg (q := 1) (m := 1) rfl rfl rfl rfl rfl 0 rfl (by decide)) ?_
  change AN _ _ _ _ _ _ _ _
  refine Qy [17, 20] (by kernel_rfl) rfl ⟨.inr (.inl (QV rfl rfl rfl rfl rfl 0 rfl (by decide) rfl rfl rfl rfl (by simp [Qo]) rfl rfl rfl rfl ?_)), .inr (.inl (Xz rfl rfl rfl rfl rfl rfl rfl (Nat.le_of_ble_eq_true rfl) rfl rfl rfl rfl ?_)), trivial⟩
  ·
   change AN _ _ _ _ _ _ _ _
   refine Qy [20] (by kernel_rfl) rfl ⟨.inr (.inl (Xz rfl rfl rfl rfl rfl rfl rfl (Nat.le_of_ble_eq_true rfl) rfl rfl rfl rfl ?_)), trivial⟩
   change AN _ _ _ _ _ _ _ _
   refine Xq (by kernel_rfl) ?_; change Ya _ _ _ _ _; refine Qu ?_
   refine QI (Yo QB 27 1 rfl rfl rfl rfl rfl rfl (fun e he => by simp [Qo] at he; subst he; rfl) rfl) ?_
   refine Qd 8 (by kernel_rfl) (by kernel_rfl) ?_; refine zm ?_; refine zp (Qe rfl rfl rfl) ?_; refine Qs ?_
   refine zp (Qe rfl rfl rfl) ?_; refine Qu ?_; change Qj _ _ _ _ _ _; refine Qv ?_; refine Qd 14 (by kernel_rfl) (by kernel_rfl) ?_
   refine zm ?_; refine zp (Qe rfl rfl rfl) ?_; refine Qs ?_; refine zp (Qe rfl rfl rfl) ?_; refine Qs ?_
   refine zp (QZ rfl rfl rfl (by decide)) ?_; refine zm ?_; refine zp (Qe rfl rfl rfl) ?_; refine Qu ?_; change Qj _ _ _ _ _ _; refine XN ?_
   refine Qh ?_
   change (Xa _ _).fzt = some _ ∧ _
   refine Jl rfl ?_ rfl ?_ rfl
   all_goals rfl
  change AN _ _ _ _ _ _ _ _
  refine Qy [17] (by kernel_rfl) rfl ⟨.inr (.inl (QV rfl rfl rfl rfl rfl 0 rfl (by decide) rfl rfl rfl rfl (by simp [Qo]) rfl rfl rfl rfl ?_)), trivial⟩
  change AN _ _ _ _ _ _ _ _
  refine Xq (by kernel_rfl) ?_; change Ya _ _ _ _ _; refine Qu ?_
  refine QI (Yo QB 27 1 rfl rfl rfl rfl rfl rfl (fun e he => by simp [Qo] at he; subst he; rfl) rfl) ?_
  refine Qd 8 (by kernel_rfl) (by kernel_rfl) ?_; refine zm ?_; refine zp (Qe rfl rfl rfl) ?_; refine Qs ?_; refine zp (Qe rfl rfl rfl) ?_
  refine Qu ?_; change Qj _ _ _ _ _ _; refine Qv ?_; refine Qd 14 (by kernel_rfl) (by kernel_rfl) ?_; refine zm ?_
  refine zp (Qe rfl rfl rfl) ?_; refine Qs ?_; refine zp (Qe rfl rfl rfl) ?_; refine Qs ?_; refine zp (QZ rfl rfl rfl (by decide)) ?_
  refine zm ?_; refine zp (Qe rfl rfl rfl) ?_; refine Qu ?_; change Qj _ _ _ _ _ _; refine XN ?_; refine Qh ?_
  change (Xa _ _).fzt = some _ ∧ _
  refine Jl rfl ?_ rfl ?_ rfl
  all_goals rfl
 change AN _ _ _ _ _ _ _ _
 refine Qy [16] (by kernel_rfl) rfl ⟨.inl (QK rfl ?_), trivial⟩
 refine zp (Xg (q := 1) (m := 1) rfl rfl rfl rfl rfl 0 rfl (by decide)) ?_
 change AN _ _ _ _ _ _ _ _
 refine Qy [17] (by kernel_rfl) rfl ⟨.inr (.inl (QV rfl rfl rfl rfl rfl 0 rfl (by decide) rfl rfl rfl rfl (by simp [Qo]) rfl rfl rfl rfl ?_)), trivial⟩
 change AN _ _ _ _ _ _ _ _
 refine Xq (by kernel_rfl) ?_; change Ya _ _ _ _ _; refine Qu ?_
 refine QI (Yo QB 27 1 rfl rfl rfl rfl rfl rfl (fun e he => by simp [Qo] at he; subst he; rfl) rfl) ?_
 refine Qd 8 (by kernel_rfl) (by kernel_rfl) ?_; refine zm ?_; refine zp (Qe rfl rfl rfl) ?_; refine Qs ?_; refine zp (Qe rfl rfl rfl) ?_
 refine Qu ?_; change Qj _ _ _ _ _ _; refine Qv ?_; refine Qd 14 (by kernel_rfl) (by kernel_rfl) ?_; refine zm ?_
 refine zp (Qe rfl rfl rfl) ?_; refine Qs ?_; refine zp (Qe rfl rfl rfl) ?_; refine Qs ?_; refine zp (QZ rfl rfl rfl (by decide)) ?_
 refine zm ?_; refine zp (Qe rfl rfl rfl) ?_; refine Qu ?_; change Qj _ _ _ _ _ _; refine XN ?_; refine Qh ?_
 change (Xa _ _).fzt = some _ ∧ _
 refine Jl rfl ?_ rfl ?_ rfl
 all_goals rfl
theorem rec2 : GC Tryz.prog 27 [.ptr QB 0, .agg (Jx (⟨3, 1, 1, 1, Y6⟩ : JR))] [(QB, .var 118 (PR sB 1 true false 0 (.sl [Qz Y6] none) false))] (i64 11) [(QB, .var 118 (PR sB 1 true false 0 (.sl [Qz Y6] none) false))] := by
 refine XL [4] Tryz.func27 rfl rfl 76 Tryz.ntmps27 (Nat.le_of_ble_eq_true rfl) ?_
 intro E hN
 refine XB ?_; refine XO hN QB chk2 (.fn _ _ _ _ rfl rfl) rfl rfl rfl rfl rfl rfl rfl rfl rfl rfl rfl ?_; refine YR ?_; refine Qh ?_
 change (Xa _ _).fzt = some _ ∧ _
 refine Jl rfl ?_ rfl ?_ rfl
 all_goals rfl
theorem rec3 : GC Tryz.prog 27 [.ptr QB 0, .agg (Jx (⟨2, 2, 1, 1, Qw.zero⟩ : JR))] [(QB, .var 118 (PR sB 1 true false 0 (.sl [Qz Y6] none) false))] (i64 0) [(QB, .var 118 (PR Y6 2 false false 0 (.p (.slice none 0 0)) false))] := by
 refine XL [4] Tryz.func27 rfl rfl 76 Tryz.ntmps27 (Nat.le_of_ble_eq_true rfl) ?_
 intro E hN
 refine XB ?_; refine XO hN QB chk3 (.fn _ _ _ _ rfl rfl) rfl rfl rfl rfl rfl rfl rfl rfl rfl rfl rfl ?_; refine XB ?_
 refine Qd 6 (by kernel_rfl) (by kernel_rfl) ?_; refine Qs ?_; refine zp (Qe rfl rfl rfl) ?_; refine zf ?_
 refine zp (Ky rfl rfl rfl 2 rfl (by decide) rfl rfl) ?_; change Qj _ _ _ _ _ _; refine X6 ?_; refine zP (Qe rfl rfl rfl) ?_; refine Qu ?_
 refine zP (QZ rfl rfl rfl (by decide)) ?_; refine zP (Qe rfl rfl rfl) ?_; refine QF ?_; refine Qd 8 (by kernel_rfl) (by kernel_rfl) ?_
 refine zm ?_; refine zp (Qe rfl rfl rfl) ?_; refine Qs ?_; refine zp (Qe rfl rfl rfl) ?_; refine Qu ?_; change Qj _ _ _ _ _ _; refine Qv ?_
 refine Qd 14 (by kernel_rfl) (by kernel_rfl) ?_; refine zm ?_; refine zp (Qe rfl rfl rfl) ?_; refine Qs ?_; refine zp (Qe rfl rfl rfl) ?_
 refine Qs ?_; refine zp (QZ rfl rfl rfl (by decide)) ?_; refine zm ?_; refine zp (Qe rfl rfl rfl) ?_; refine Qu ?_; change Qj _ _ _ _ _ _
 refine QF ?_; refine XO hN QB Qrp (.fn _ _ _ _ rfl rfl) rfl rfl rfl rfl rfl rfl rfl rfl rfl rfl rfl ?_; refine QF ?_; refine Qh ?_
 change (Xa _ _).fzt = some _ ∧ _
 refine Jl rfl ?_ rfl ?_ rfl
 all_goals rfl
theorem rec4 : GC Tryz.prog 27 [.ptr QB 0, .agg (Jx (⟨2, 1, 1, 2, Qw.zero⟩ : JR))] [(QB, .var 118 (PR Y6 2 false false 0 (.p (.slice none 0 0)) false))] (i64 0) [(QB, .var 118 (PR Y6 2 true false 1 (.p (.slice none 0 0)) false))] := by
 refine XL [4] Tryz.func27 rfl rfl 76 Tryz.ntmps27 (Nat.le_of_ble_eq_true rfl) ?_
 intro E hN
 refine XB ?_; refine XO hN QB chk4 (.fn _ _ _ _ rfl rfl) rfl rfl rfl rfl rfl rfl rfl rfl rfl rfl rfl ?_; refine XB ?_
 refine Qd 6 (by kernel_rfl) (by kernel_rfl) ?_; refine Qs ?_; refine zp (Qe rfl rfl rfl) ?_; refine zf ?_
 refine zp (Ky rfl rfl rfl 1 rfl (by decide) rfl rfl) ?_; change Qj _ _ _ _ _ _; refine X6 ?_; refine zP (Qe rfl rfl rfl) ?_; refine Qu ?_
 refine zP (QZ rfl rfl rfl (by decide)) ?_; refine zP (Qe rfl rfl rfl) ?_; refine QF ?_; refine Qd 8 (by kernel_rfl) (by kernel_rfl) ?_
 refine zm ?_; refine zp (Qe rfl rfl rfl) ?_; refine Qs ?_; refine zp (Qe rfl rfl rfl) ?_; refine Qu ?_; change Qj _ _ _ _ _ _; refine Qv ?_
 refine Qd 14 (by kernel_rfl) (by kernel_rfl) ?_; refine zm ?_; refine zp (Qe rfl rfl rfl) ?_; refine Qs ?_; refine zp (Qe rfl rfl rfl) ?_
 refine Qs ?_; refine zp (QZ rfl rfl rfl (by decide)) ?_; refine zm ?_; refine zp (Qe rfl rfl rfl) ?_; refine Qu ?_; change Qj _ _ _ _ _ _
 refine XN ?_; refine Qh ?_
 change (Xa _ _).fzt = some _ ∧ _
 refine Jl rfl ?_ rfl ?_ rfl
 all_goals rfl
theorem rec5 : GC Tryz.prog 27 [.ptr QB 0, .agg (Jx (⟨2, 1, 1, 2, Qw.zero⟩ : JR))] [(QB, .var 118 (PR Y6 2 true false 1 (.p (.slice none 0 0)) false))] (i64 11) [(QB, .var 118 (PR Y6 2 true false 1 (.p (.slice none 0 0)) false))] := by
 refine XL [4] Tryz.func27 rfl rfl 76 Tryz.ntmps27 (Nat.le_of_ble_eq_true rfl) ?_
 intro E hN
 refine XB ?_; refine XO hN QB chk5 (.fn _ _ _ _ rfl rfl) rfl rfl rfl rfl rfl rfl rfl rfl rfl rfl rfl ?_; refine YR ?_; refine Qh ?_
 change (Xa _ _).fzt = some _ ∧ _
 refine Jl rfl ?_ rfl ?_ rfl
 all_goals rfl
theorem rec6 : GC Tryz.prog 27 [.ptr QB 0, .agg (Jx (⟨2, 2, 1, 2, Qw.zero⟩ : JR))] [(QB, .var 118 (PR Y6 2 true false 1 (.p (.slice none 0 0)) false))] (i64 0) [(QB, .var 118 (PR Y6 2 true true 2 (.p (.slice none 0 0)) true))] := by
 refine XL [4] Tryz.func27 rfl rfl 76 Tryz.ntmps27 (Nat.le_of_ble_eq_true rfl) ?_
 intro E hN
 refine XB ?_; refine XO hN QB chk6 (.fn _ _ _ _ rfl rfl) rfl rfl rfl rfl rfl rfl rfl rfl rfl rfl rfl ?_; refine XB ?_
 refine Qd 6 (by kernel_rfl) (by kernel_rfl) ?_; refine Qs ?_; refine zp (Qe rfl rfl rfl) ?_; refine zf ?_
 refine zp (Ky rfl rfl rfl 2 rfl (by decide) rfl rfl) ?_; change Qj _ _ _ _ _ _; refine X6 ?_; refine zP (Qe rfl rfl rfl) ?_; refine Qu ?_
 refine zP (QZ rfl rfl rfl (by decide)) ?_; refine zP (Qe rfl rfl rfl) ?_; refine QF ?_; refine Qd 8 (by kernel_rfl) (by kernel_rfl) ?_
 refine zm ?_; refine zp (Qe rfl rfl rfl) ?_; refine Qs ?_; refine zp (Qe rfl rfl rfl) ?_; refine Qu ?_; change Qj _ _ _ _ _ _; refine QF ?_
 refine zP (Qe rfl rfl rfl) ?_; refine Q4 ?_; refine Qh ?_
 change (Xa _ _).fzt = some _ ∧ _
 refine Jl rfl ?_ rfl ?_ rfl
 all_goals rfl
end Go.Proofs.YtnkkokmmeplbgaaGreat
