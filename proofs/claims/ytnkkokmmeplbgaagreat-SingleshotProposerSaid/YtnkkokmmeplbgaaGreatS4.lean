/-
  Contracts: the chapter's example.
-/
import Derived.Test.YtnkkokmmeplbgaaGreatS3
namespace Go.Proofs.YtnkkokmmeplbgaaGreat
set_option maxRecDepth 100000
set_option maxHeartbeats 1000000
open Go.RowKit
theorem Qr0 (id : Int) (h0 : 0 ≤ id) (h1 : id < 12) : FN Tryz.prog 59 [.agg (Q2 sL), i64 id] 151 (Qbt sL id Qw.zero) (i64 0) := Qrl sL id sCk h0 h1
theorem aR0 : GC Tryz.prog 61 [.ptr QB 0, .agg (Jx (⟨1, 0, 1, 1, sA⟩ : JR))] [(QB, .var 151 (Qbt sL 1 Qw.zero))] (.tup [.agg (Jx (⟨2, 1, 0, 1, Qw.zero⟩ : JR)), i64 0]) [(QB, .var 151 (Qbt sL 1 sA))] := Qcx sL 1 Qw.zero (⟨1, 0, 1, 1, sA⟩ : JR) sCk (by decide) ((YB (by kernel_rfl)).up (by decide)) (YB (by kernel_rfl))
theorem aR1 : GC Tryz.prog 61 [.ptr QB 0, .agg (Jx (⟨1, 1, 1, 1, sB⟩ : JR))] [(QB, .var 151 (Qbt sL 1 sA))] (.tup [.agg (Jx (⟨3, 1, 1, 1, Y6⟩ : JR)), i64 0]) [(QB, .var 151 (Qbt sL 1 Y6))] := Qcx sL 1 sA (⟨1, 1, 1, 1, sB⟩ : JR) sCk (by decide) ((YB (by kernel_rfl)).up (by decide)) (YB (by kernel_rfl))
theorem aR2 : GC Tryz.prog 61 [.ptr QB 0, .agg (Jx (⟨1, 1, 1, 2, Y6⟩ : JR))] [(QB, .var 151 (Qbt sL 1 Y6))] (.tup [.agg (Jx (⟨2, 1, 1, 2, Qw.zero⟩ : JR)), i64 0]) [(QB, .var 151 (Qbt sL 1 Y6))] := Qcx sL 1 Y6 (⟨1, 1, 1, 2, Y6⟩ : JR) sCk (by decide) ((YB (by kernel_rfl)).up (by decide)) (YB (by kernel_rfl))
theorem bR1 : GC Tryz.prog 61 [.ptr QB 0, .agg (Jx (⟨1, 1, 2, 1, sB⟩ : JR))] [(QB, .var 151 (Qbt sL 2 Qw.zero))] (.tup [.agg (Jx (⟨2, 2, 1, 1, Qw.zero⟩ : JR)), i64 0]) [(QB, .var 151 (Qbt sL 2 sB))] := Qcx sL 2 Qw.zero (⟨1, 1, 2, 1, sB⟩ : JR) sCk (by decide) ((YB (by kernel_rfl)).up (by decide)) (YB (by kernel_rfl))
theorem bR2 : GC Tryz.prog 61 [.ptr QB 0, .agg (Jx (⟨1, 1, 2, 2, Y6⟩ : JR))] [(QB, .var 151 (Qbt sL 2 sB))] (.tup [.agg (Jx (⟨2, 2, 1, 2, Qw.zero⟩ : JR)), i64 0]) [(QB, .var 151 (Qbt sL 2 Y6))] := Qcx sL 2 sB (⟨1, 1, 2, 2, Y6⟩ : JR) sCk (by decide) ((YB (by kernel_rfl)).up (by decide)) (YB (by kernel_rfl))
def wA : Nat → Qw | 0 => sA | _ => Y6
def wB : Nat → Qw | 0 => Qw.zero | 1 => sB | _ => Y6
def wP : Nat → List AV | 0 => (PR sB 1 false false 0 (.p (.slice none 0 0)) false) | 1 => (PR Y6 2 false false 0 (.p (.slice none 0 0)) false) | _ => (PR Y6 2 true true 2 (.p (.slice none 0 0)) true)
theorem QbO : FC Tryz.prog 16 [] (bl true) := by
 refine Qg [0] Tryz.func16 rfl rfl 168 Tryz.ntmps16 (Nat.le_of_ble_eq_true rfl) ?_
 intro E hN
 refine YR ?_; refine Qia hN rfl (Qr0 1 (by decide) (by decide)) (.fn _ _ _ _ rfl rfl) rfl rfl rfl rfl rfl ?_; refine JA ?_
 refine Qia hN rfl (Qr0 2 (by decide) (by decide)) (.fn _ _ _ _ rfl rfl) rfl rfl rfl rfl rfl ?_; refine Q8 ?_
 refine Wm (⟨[(2, .ptr 1 0), (3, i64 0), (4, .ptr 2 0), (5, i64 0), (6, .ptr 3 0), (7, i64 0)], [(1, .var 151 (Qbt sL 1 Qw.zero)), (2, .var 151 (Qbt sL 2 Qw.zero)), (3, .var 118 (PR sB 1 false false 0 (.p (.slice none 0 0)) false))], 4⟩) ?_ ?_
 ·
  refine QcO 0 9 #[false, false, false, false, false, false, false, false, false] (by kernel_rfl) (by kernel_rfl) (by kernel_rfl) (by kernel_rfl) (by kernel_rfl) (by kernel_rfl) ?_
  refine ⟨_, Kx.refl, ?_⟩
  refine Qy [0, 1] (by kernel_rfl) rfl ⟨.inl (QK rfl ?_), .inl (QK rfl ?_), trivial⟩
  ·
   refine zl ?_
   change AN _ _ _ _ _ _ _ _
   refine Qy [1] (by kernel_rfl) rfl ⟨.inl (QK rfl ?_), trivial⟩
   refine zp (QE rfl rfl rfl rfl (by exact rfl) (by decide) (by decide)) ?_
   change AN _ _ _ _ _ _ _ _
   refine Qy [2] (by kernel_rfl) rfl ⟨.inl (QK rfl ?_), trivial⟩
   refine zp (Qc (Qcn [[98]]) rfl rfl rfl) ?_
   change AN _ _ _ _ _ _ _ _
   refine Qy [3] (by kernel_rfl) rfl ⟨.inr (.inr (QgL hN rfl rfl Qi1 (.fn _ _ _ _ rfl rfl) rfl rfl rfl rfl rfl ?_)), trivial⟩
   change AN _ _ _ _ _ _ _ _
   refine Qy [4] (by kernel_rfl) rfl ⟨.inl (QK rfl ?_), trivial⟩
   refine zm ?_
   change AN _ _ _ _ _ _ _ _
   refine Qy [5, 6] (by kernel_rfl) rfl ⟨.inl (QK rfl ?_), .inl (QK rfl ?_), trivial⟩
   ·
    refine Jk ?_
    change AN _ _ _ _ _ _ _ _
    refine Qy [6, 7] (by kernel_rfl) rfl ⟨.inl (QK rfl ?_), .inl (QK rfl ?_), trivial⟩
    ·
     refine Jk ?_
     change AN _ _ _ _ _ _ _ _
     refine Qy [7] (by kernel_rfl) rfl ⟨.inl (QK rfl ?_), trivial⟩
     refine zp (Xb rfl rfl) ?_
     change AN _ _ _ _ _ _ _ _
     refine Qy [8] (by kernel_rfl) rfl ⟨.inl (QK rfl ?_), trivial⟩
     refine zp (Xb rfl rfl) ?_
     change AN _ _ _ _ _ _ _ _
     refine Xq (by kernel_rfl) ?_
     exact Qa rfl (JH (JI trivial)) ⟨rfl, rfl, rfl, rfl, rfl, rfl, rfl, rfl, rfl, trivial⟩
    refine zp (Xb rfl rfl) ?_
    change AN _ _ _ _ _ _ _ _
    refine Qy [6] (by kernel_rfl) rfl ⟨.inl (QK rfl ?_), trivial⟩
    refine Jk ?_
    change AN _ _ _ _ _ _ _ _
    refine Qy [8] (by kernel_rfl) rfl ⟨.inl (QK rfl ?_), trivial⟩
    refine zp (Xb rfl rfl) ?_
    change AN _ _ _ _ _ _ _ _
    refine Xq (by kernel_rfl) ?_
    exact Qa rfl (JH (JI trivial)) ⟨rfl, rfl, rfl, rfl, rfl, rfl, rfl, rfl, rfl, trivial⟩
   refine Jk ?_
   change AN _ _ _ _ _ _ _ _
   refine Qy [5] (by kernel_rfl) rfl ⟨.inl (QK rfl ?_), trivial⟩
   refine Jk ?_
   change AN _ _ _ _ _ _ _ _
   refine Qy [7] (by kernel_rfl) rfl ⟨.inl (QK rfl ?_), trivial⟩
   refine zp (Xb rfl rfl) ?_
   change AN _ _ _ _ _ _ _ _
   refine Qy [8] (by kernel_rfl) rfl ⟨.inl (QK rfl ?_), trivial⟩
   refine zp (Xb rfl rfl) ?_
   change AN _ _ _ _ _ _ _ _
   refine Xq (by kernel_rfl) ?_
   exact Qa rfl (JH (JI trivial)) ⟨rfl, rfl, rfl, rfl, rfl, rfl, rfl, rfl, rfl, trivial⟩
  refine zp (QE rfl rfl rfl rfl (by exact rfl) (by decide) (by decide)) ?_
  change AN _ _ _ _ _ _ _ _
  refine Qy [0, 2] (by kernel_rfl) rfl ⟨.inl (QK rfl ?_), .inl (QK rfl ?_), trivial⟩
  ·
   refine zl ?_
   change AN _ _ _ _ _ _ _ _
   refine Qy [2] (by kernel_rfl) rfl ⟨.inl (QK rfl ?_), trivial⟩
   refine zp (Qc (Qcn [[98]]) rfl rfl rfl) ?_
   change AN _ _ _ _ _ _ _ _
   refine Qy [3] (by kernel_rfl) rfl ⟨.inr (.inr (QgL hN rfl rfl Qi1 (.fn _ _ _ _ rfl rfl) rfl rfl rfl rfl rfl ?_)), trivial⟩
   change AN _ _ _ _ _ _ _ _
   refine Qy [4] (by kernel_rfl) rfl ⟨.inl (QK rfl ?_), trivial⟩
   refine zm ?_
   change AN _ _ _ _ _ _ _ _
   refine Qy [5, 6] (by kernel_rfl) rfl ⟨.inl (QK rfl ?_), .inl (QK rfl ?_), trivial⟩
   ·
    refine Jk ?_
    change AN _ _ _ _ _ _ _ _
    refine Qy [6, 7] (by kernel_rfl) rfl ⟨.inl (QK rfl ?_), .inl (QK rfl ?_), trivial⟩
    ·
     refine Jk ?_
     change AN _ _ _ _ _ _ _ _
     refine Qy [7] (by kernel_rfl) rfl ⟨.inl (QK rfl ?_), trivial⟩
     refine zp (Xb rfl rfl) ?_
     change AN _ _ _ _ _ _ _ _
     refine Qy [8] (by kernel_rfl) rfl ⟨.inl (QK rfl ?_), trivial⟩
     refine zp (Xb rfl rfl) ?_
     change AN _ _ _ _ _ _ _ _
     refine Xq (by kernel_rfl) ?_
     exact Qa rfl (JH (JI trivial)) ⟨rfl, rfl, rfl, rfl, rfl, rfl, rfl, rfl, rfl, trivial⟩
    refine zp (Xb rfl rfl) ?_
    change AN _ _ _ _ _ _ _ _
    refine Qy [6] (by kernel_rfl) rfl ⟨.inl (QK rfl ?_), trivial⟩
    refine Jk ?_
    change AN _ _ _ _ _ _ _ _
    refine Qy [8] (by kernel_rfl) rfl ⟨.inl (QK rfl ?_), trivial⟩
    refine zp (Xb rfl rfl) ?_
    change AN _ _ _ _ _ _ _ _
    refine Xq (by kernel_rfl) ?_
    exact Qa rfl (JH (JI trivial)) ⟨rfl, rfl, rfl, rfl, rfl, rfl, rfl, rfl, rfl, trivial⟩
   refine Jk ?_
   change AN _ _ _ _ _ _ _ _
   refine Qy [5] (by kernel_rfl) rfl ⟨.inl (QK rfl ?_), trivial⟩
   refine Jk ?_
   change AN _ _ _ _ _ _ _ _
   refine Qy [7] (by kernel_rfl) rfl ⟨.inl (QK rfl ?_), trivial⟩
   refine zp (Xb rfl rfl) ?_
   change AN _ _ _ _ _ _ _ _
   refine Qy [8] (by kernel_rfl) rfl ⟨.inl (QK rfl ?_), trivial⟩
   refine zp (Xb rfl rfl) ?_
   change AN _ _ _ _ _ _ _ _
   refine Xq (by kernel_rfl) ?_
   exact Qa rfl (JH (JI trivial)) ⟨rfl, rfl, rfl, rfl, rfl, rfl, rfl, rfl, rfl, trivial⟩
  refine zp (Qc (Qcn [[98]]) rfl rfl rfl) ?_
  change AN _ _ _ _ _ _ _ _
  refine Qy [0] (by kernel_rfl) rfl ⟨.inl (QK rfl ?_), trivial⟩
  refine zl ?_
  change AN _ _ _ _ _ _ _ _
  refine Qy [3] (by kernel_rfl) rfl ⟨.inr (.inr (QgL hN rfl rfl Qi1 (.fn _ _ _ _ rfl rfl) rfl rfl rfl rfl rfl ?_)), trivial⟩
  change AN _ _ _ _ _ _ _ _
  refine Qy [4] (by kernel_rfl) rfl ⟨.inl (QK rfl ?_), trivial⟩
  refine zm ?_
  change AN _ _ _ _ _ _ _ _
  refine Qy [5, 6] (by kernel_rfl) rfl ⟨.inl (QK rfl ?_), .inl (QK rfl ?_), trivial⟩
  ·
   refine Jk ?_
   change AN _ _ _ _ _ _ _ _
   refine Qy [6, 7] (by kernel_rfl) rfl ⟨.inl (QK rfl ?_), .inl (QK rfl ?_), trivial⟩
   ·
    refine Jk ?_
    change AN _ _ _ _ _ _ _ _
    refine Qy [7] (by kernel_rfl) rfl ⟨.inl (QK rfl ?_), trivial⟩
    refine zp (Xb rfl rfl) ?_
    change AN _ _ _ _ _ _ _ _
    refine Qy [8] (by kernel_rfl) rfl ⟨.inl (QK rfl ?_), trivial⟩
    refine zp (Xb rfl rfl) ?_
    change AN _ _ _ _ _ _ _ _
    refine Xq (by kernel_rfl) ?_
    exact Qa rfl (JH (JI trivial)) ⟨rfl, rfl, rfl, rfl, rfl, rfl, rfl, rfl, rfl, trivial⟩
   refine zp (Xb rfl rfl) ?_
   change AN _ _ _ _ _ _ _ _
   refine Qy [6] (by kernel_rfl) rfl ⟨.inl (QK rfl ?_), trivial⟩
   refine Jk ?_
   change AN _ _ _ _ _ _ _ _
   refine Qy [8] (by kernel_rfl) rfl ⟨.inl (QK rfl ?_), trivial⟩
   refine zp (Xb rfl rfl) ?_
   change AN _ _ _ _ _ _ _ _
   refine Xq (by kernel_rfl) ?_
   exact Qa rfl (JH (JI trivial)) ⟨rfl, rfl, rfl, rfl, rfl, rfl, rfl, rfl, rfl, trivial⟩
  refine Jk ?_
  change AN _ _ _ _ _ _ _ _
  refine Qy [5] (by kernel_rfl) rfl ⟨.inl (QK rfl ?_), trivial⟩
  refine Jk ?_
  change AN _ _ _ _ _ _ _ _
  refine Qy [7] (by kernel_rfl) rfl ⟨.inl (QK rfl ?_), trivial⟩
  refine zp (Xb rfl rfl) ?_
  change AN _ _ _ _ _ _ _ _
  refine Qy [8] (by kernel_rfl) rfl ⟨.inl (QK rfl ?_), trivial⟩
  refine zp (Xb rfl rfl) ?_
  change AN _ _ _ _ _ _ _ _
  refine Xq (by kernel_rfl) ?_
  exact Qa rfl (JH (JI trivial)) ⟨rfl, rfl, rfl, rfl, rfl, rfl, rfl, rfl, rfl, trivial⟩
 refine QdD ?_; refine XO hN 3 Qr3 (.fn _ _ _ _ rfl rfl) rfl rfl rfl rfl rfl rfl rfl rfl rfl rfl rfl ?_; refine JA ?_
 refine zP (QE rfl rfl rfl rfl (by exact rfl) (by decide) (by decide)) ?_; refine zP (Qc (Qcn [[97]]) rfl rfl rfl) ?_; refine Jk ?_
 refine XO hN 1 aR0 (.fn _ _ _ _ rfl rfl) rfl rfl rfl rfl rfl rfl rfl rfl rfl rfl rfl ?_; refine QaA ?_; refine X6 ?_
 refine Ql (fun x : {i : Nat // i ≤ 2} => ⟨[(2, .ptr 1 0), (4, .ptr 2 0), (6, .ptr 3 0), (10, i64 (x.1 + 1))], [(1, .var 151 (Qbt sL 1 (wA x.1))), (2, .var 151 (Qbt sL 2 (wB x.1))), (3, .var 118 (wP x.1))], 4⟩) (fun x => 2 - x.1) (⟨0, by decide⟩) ?_ ?_
 ·
  exact Qa rfl (JH trivial) ⟨rfl, rfl, rfl, rfl, rfl, rfl, rfl, rfl, rfl, trivial⟩
 rintro ⟨i, hi⟩
 dsimp only
 rcases (show i = 0 ∨ i = 1 ∨ i = 2 by omega) with rfl | rfl | rfl
 ·
  skip
  refine YR ?_; refine XO hN 3 Qr3 (.fn _ _ _ _ rfl rfl) rfl rfl rfl rfl rfl rfl rfl rfl rfl rfl rfl ?_; refine XB ?_
  refine zP (Qf rfl rfl rfl 1 rfl (Jx (⟨1, 1, 1, 1, sB⟩ : JR)) rfl (by exact rfl)) ?_; refine X6 ?_
  refine zP (Qf rfl rfl rfl 1 rfl (Jx (⟨1, 1, 1, 1, sB⟩ : JR)) rfl (by exact rfl)) ?_; refine zL ?_
  refine XO hN 1 aR1 (.fn _ _ _ _ rfl rfl) rfl rfl rfl rfl rfl rfl rfl rfl rfl rfl rfl ?_; refine Jv ?_
  refine zP (Qf rfl rfl rfl 2 rfl (Jx (⟨1, 1, 2, 1, sB⟩ : JR)) rfl (by exact rfl)) ?_; refine zL ?_
  refine XO hN 2 bR1 (.fn _ _ _ _ rfl rfl) rfl rfl rfl rfl rfl rfl rfl rfl rfl rfl rfl ?_; refine QaA ?_; refine X6 ?_
  refine XO hN 3 rec1 (.fn _ _ _ _ rfl rfl) rfl rfl rfl rfl rfl rfl rfl rfl rfl rfl rfl ?_; refine Qv ?_
  refine XO hN 3 rec2 (.fn _ _ _ _ rfl rfl) rfl rfl rfl rfl rfl rfl rfl rfl rfl rfl rfl ?_; refine QF ?_
  refine XO hN 3 rec3 (.fn _ _ _ _ rfl rfl) rfl rfl rfl rfl rfl rfl rfl rfl rfl rfl rfl ?_; refine Q4 ?_
  refine zP (QZ rfl rfl rfl (by decide)) ?_; refine zS ?_; refine Qb ?_
  exact ⟨⟨1, by decide⟩, Qa rfl (JH trivial) ⟨rfl, rfl, rfl, rfl, rfl, rfl, rfl, rfl, rfl, trivial⟩, by decide⟩
 ·
  skip
  refine YR ?_; refine XO hN 3 QtM (.fn _ _ _ _ rfl rfl) rfl rfl rfl rfl rfl rfl rfl rfl rfl rfl rfl ?_; refine XB ?_
  refine zP (Qf rfl rfl rfl 1 rfl (Jx (⟨1, 1, 1, 2, Y6⟩ : JR)) rfl (by exact rfl)) ?_; refine X6 ?_
  refine zP (Qf rfl rfl rfl 1 rfl (Jx (⟨1, 1, 1, 2, Y6⟩ : JR)) rfl (by exact rfl)) ?_; refine zL ?_
  refine XO hN 1 aR2 (.fn _ _ _ _ rfl rfl) rfl rfl rfl rfl rfl rfl rfl rfl rfl rfl rfl ?_; refine Jv ?_
  refine zP (Qf rfl rfl rfl 2 rfl (Jx (⟨1, 1, 2, 2, Y6⟩ : JR)) rfl (by exact rfl)) ?_; refine zL ?_
  refine XO hN 2 bR2 (.fn _ _ _ _ rfl rfl) rfl rfl rfl rfl rfl rfl rfl rfl rfl rfl rfl ?_; refine QaA ?_; refine X6 ?_
  refine XO hN 3 rec4 (.fn _ _ _ _ rfl rfl) rfl rfl rfl rfl rfl rfl rfl rfl rfl rfl rfl ?_; refine Qv ?_
  refine XO hN 3 rec5 (.fn _ _ _ _ rfl rfl) rfl rfl rfl rfl rfl rfl rfl rfl rfl rfl rfl ?_; refine QF ?_
  refine XO hN 3 rec6 (.fn _ _ _ _ rfl rfl) rfl rfl rfl rfl rfl rfl rfl rfl rfl rfl rfl ?_; refine Q4 ?_
  refine zP (QZ rfl rfl rfl (by decide)) ?_; refine zS ?_; refine Qb ?_
  exact ⟨⟨2, by decide⟩, Qa rfl (JH trivial) ⟨rfl, rfl, rfl, rfl, rfl, rfl, rfl, rfl, rfl, trivial⟩, by decide⟩
 skip
 refine Jv ?_; refine XO hN 3 QqV (.fn _ _ _ _ rfl rfl) rfl rfl rfl rfl rfl rfl rfl rfl rfl rfl rfl ?_; refine XN ?_
 refine Qd 18 (by kernel_rfl) (by kernel_rfl) ?_; refine Qu ?_
 refine zd 151 ?_ ?_ <;> intro h159
 ·
  refine Jk ?_; refine vP (XG h159) (QE rfl rfl rfl rfl (by exact rfl) (by decide) (by decide)) ?_
  refine vP (XG h159) (Qc (Qcn [[97], [98]]) rfl rfl rfl) ?_
  refine vP (XG h159) (Qc (fcb (c := true) (Je Y6 Y6) (by decide)) rfl rfl rfl) ?_; refine Qs ?_
  refine zp (WN 3 QrB rfl rfl rfl rfl rfl rfl rfl rfl rfl) ?_; refine Qv ?_
  refine zp (WN 3 QtV rfl rfl rfl rfl rfl rfl rfl rfl rfl) ?_; refine Qs ?_; change Qj _ _ _ _ _ _; refine zS ?_; refine zQ ?_
  first | rfl | (exfalso; simp_all; done)
 refine Qcb ?_; change Qj _ _ _ _ _ _; refine zS ?_; refine zQ ?_
 first | rfl | (exfalso; simp_all; done)
end Go.Proofs.YtnkkokmmeplbgaaGreat
