/-
  Contracts: the chapter's example.
  The laws SingleshotGrows and SingleshotAcceptor.
-/
import Derived.Test.YtnjmbgnaplomaaaGreatS3
import Derived.Test.YtnjmbgnaplomaaaGreatS1
namespace Go.Proofs.YtnjmbgnaplomaaaGreat
open Go.RowKit
theorem newA1 (id : Int) (h0 : 0 ≤ id) (h1 : id < 12) : FN Tryz.prog 12 [.agg (latL sL), i64 id] 92 (accC sL id Val.zero) (i64 0) := newA_fn sL id sCk h0 h1
theorem aR0 : GC Tryz.prog 16 [.ptr idB 0, .agg (balC (⟨1, 0, 1, 1, sA⟩ : Bal))] [(idB, .var 92 (accC sL 1 Val.zero))] (.tup [.agg (balC (⟨2, 1, 0, 1, Val.zero⟩ : Bal)), i64 0]) [(idB, .var 92 (accC sL 1 sA))] := recvA_gc sL 1 Val.zero (⟨1, 0, 1, 1, sA⟩ : Bal) sCk (by decide) ((sm_small (by kernel_rfl)).up (by decide)) (sm_small (by kernel_rfl))
theorem aR1 : GC Tryz.prog 16 [.ptr idB 0, .agg (balC (⟨1, 1, 1, 1, sB⟩ : Bal))] [(idB, .var 92 (accC sL 1 sA))] (.tup [.agg (balC (⟨3, 1, 1, 1, sAB⟩ : Bal)), i64 0]) [(idB, .var 92 (accC sL 1 sAB))] := recvA_gc sL 1 sA (⟨1, 1, 1, 1, sB⟩ : Bal) sCk (by decide) ((sm_small (by kernel_rfl)).up (by decide)) (sm_small (by kernel_rfl))
theorem aR2 : GC Tryz.prog 16 [.ptr idB 0, .agg (balC (⟨1, 1, 1, 2, sAB⟩ : Bal))] [(idB, .var 92 (accC sL 1 sAB))] (.tup [.agg (balC (⟨2, 1, 1, 2, Val.zero⟩ : Bal)), i64 0]) [(idB, .var 92 (accC sL 1 sAB))] := recvA_gc sL 1 sAB (⟨1, 1, 1, 2, sAB⟩ : Bal) sCk (by decide) ((sm_small (by kernel_rfl)).up (by decide)) (sm_small (by kernel_rfl))
theorem bR1 : GC Tryz.prog 16 [.ptr idB 0, .agg (balC (⟨1, 1, 2, 1, sB⟩ : Bal))] [(idB, .var 92 (accC sL 2 Val.zero))] (.tup [.agg (balC (⟨2, 2, 1, 1, Val.zero⟩ : Bal)), i64 0]) [(idB, .var 92 (accC sL 2 sB))] := recvA_gc sL 2 Val.zero (⟨1, 1, 2, 1, sB⟩ : Bal) sCk (by decide) ((sm_small (by kernel_rfl)).up (by decide)) (sm_small (by kernel_rfl))
theorem bR2 : GC Tryz.prog 16 [.ptr idB 0, .agg (balC (⟨1, 1, 2, 2, sAB⟩ : Bal))] [(idB, .var 92 (accC sL 2 sB))] (.tup [.agg (balC (⟨2, 2, 1, 2, Val.zero⟩ : Bal)), i64 0]) [(idB, .var 92 (accC sL 2 sAB))] := recvA_gc sL 2 sB (⟨1, 1, 2, 2, sAB⟩ : Bal) sCk (by decide) ((sm_small (by kernel_rfl)).up (by decide)) (sm_small (by kernel_rfl))
def wA : Nat → Val | 0 => sA | _ => sAB
def wB : Nat → Val | 0 => Val.zero | 1 => sB | _ => sAB
def wP : Nat → List AV | 0 => (PR sB 1 false false 0 (.p (.slice none 0 0)) false) | 1 => (PR sAB 2 false false 0 (.p (.slice none 0 0)) false) | _ => (PR sAB 2 true true 2 (.p (.slice none 0 0)) true)
set_option maxRecDepth 100000 in
set_option maxHeartbeats 1000000 in
theorem awake34_fc : FC Tryz.prog 11 [] (bl true) := by
 refine fc_of_awp [0] Tryz.func11 rfl rfl 168 Tryz.ntmps11 (Nat.le_of_ble_eq_true rfl) ?_
 intro E hN
 refine zG ?_; refine zS ?_; refine zA ?_; refine zP (q_build rfl rfl rfl) ?_; refine zO ?_; refine zC ?_; refine zA ?_; refine zL ?_
 refine s_ncall hN rfl (newA1 1 (by decide) (by decide)) (.fn _ _ _ _ rfl rfl) rfl rfl rfl rfl rfl ?_; refine zM ?_
 refine zP (q_extract rfl rfl rfl) ?_; refine zP (q_extract rfl rfl rfl) ?_; refine zS ?_; refine zS ?_; refine zA ?_; refine zL ?_
 refine s_ncall hN rfl (newA1 2 (by decide) (by decide)) (.fn _ _ _ _ rfl rfl) rfl rfl rfl rfl rfl ?_; refine zM ?_
 refine zP (q_extract rfl rfl rfl) ?_; refine zP (q_extract rfl rfl rfl) ?_; refine zS ?_; refine zT ?_
 refine c_cut (⟨[(2, .ptr 1 0), (3, i64 0), (4, .ptr 2 0), (5, i64 0), (6, .ptr 3 0), (7, i64 0)], [(1, .var 92 (accC sL 1 Val.zero)), (2, .var 92 (accC sL 2 Val.zero)), (3, .var 98 (PR sB 1 false false 0 (.p (.slice none 0 0)) false))], 4⟩) ?_ ?_
 ·
  refine awp_mixed 0 9 #[false, false, false, false, false, false, false, false, false] (by kernel_rfl) (by kernel_rfl) (by kernel_rfl) (by kernel_rfl) (by kernel_rfl) (by kernel_rfl) ?_
  refine ⟨_, Weak.refl, ?_⟩
  refine an_all [0, 1] (by kernel_rfl) rfl ⟨.inl (ao_py rfl ?_), .inl (ao_py rfl ?_), trivial⟩
  ·
   refine zl ?_
   change AN _ _ _ _ _ _ _ _
   refine an_all [1] (by kernel_rfl) rfl ⟨.inl (ao_py rfl ?_), trivial⟩
   refine zp (q_bslice rfl rfl rfl rfl (by exact rfl) (by decide) (by decide)) ?_
   change AN _ _ _ _ _ _ _ _
   refine an_all [2] (by kernel_rfl) rfl ⟨.inl (ao_py rfl ?_), trivial⟩
   refine zp (q_call (set34_fc [[98]]) rfl rfl rfl) ?_
   change AN _ _ _ _ _ _ _ _
   refine an_all [3] (by kernel_rfl) rfl ⟨.inr (.inr (nw_ncall hN rfl rfl newP_fn (.fn _ _ _ _ rfl rfl) rfl rfl rfl rfl rfl ?_)), trivial⟩
   change AN _ _ _ _ _ _ _ _
   refine an_all [4] (by kernel_rfl) rfl ⟨.inl (ao_py rfl ?_), trivial⟩
   refine zm ?_
   change AN _ _ _ _ _ _ _ _
   refine an_all [5, 6] (by kernel_rfl) rfl ⟨.inl (ao_py rfl ?_), .inl (ao_py rfl ?_), trivial⟩
   ·
    refine zp (q_extract rfl rfl rfl) ?_
    change AN _ _ _ _ _ _ _ _
    refine an_all [6, 7] (by kernel_rfl) rfl ⟨.inl (ao_py rfl ?_), .inl (ao_py rfl ?_), trivial⟩
    ·
     refine zp (q_extract rfl rfl rfl) ?_
     change AN _ _ _ _ _ _ _ _
     refine an_all [7] (by kernel_rfl) rfl ⟨.inl (ao_py rfl ?_), trivial⟩
     refine zp (q_assign rfl rfl) ?_
     change AN _ _ _ _ _ _ _ _
     refine an_all [8] (by kernel_rfl) rfl ⟨.inl (ao_py rfl ?_), trivial⟩
     refine zp (q_assign rfl rfl) ?_
     change AN _ _ _ _ _ _ _ _
     refine an_done (by kernel_rfl) ?_
     exact weak_scrub' rfl (zz4 (zz2 trivial)) ⟨rfl, rfl, rfl, rfl, rfl, rfl, rfl, rfl, rfl, trivial⟩
    refine zp (q_assign rfl rfl) ?_
    change AN _ _ _ _ _ _ _ _
    refine an_all [6] (by kernel_rfl) rfl ⟨.inl (ao_py rfl ?_), trivial⟩
    refine zp (q_extract rfl rfl rfl) ?_
    change AN _ _ _ _ _ _ _ _
    refine an_all [8] (by kernel_rfl) rfl ⟨.inl (ao_py rfl ?_), trivial⟩
    refine zp (q_assign rfl rfl) ?_
    change AN _ _ _ _ _ _ _ _
    refine an_done (by kernel_rfl) ?_
    exact weak_scrub' rfl (zz4 (zz2 trivial)) ⟨rfl, rfl, rfl, rfl, rfl, rfl, rfl, rfl, rfl, trivial⟩
   refine zp (q_extract rfl rfl rfl) ?_
   change AN _ _ _ _ _ _ _ _
   refine an_all [5] (by kernel_rfl) rfl ⟨.inl (ao_py rfl ?_), trivial⟩
   refine zp (q_extract rfl rfl rfl) ?_
   change AN _ _ _ _ _ _ _ _
   refine an_all [7] (by kernel_rfl) rfl ⟨.inl (ao_py rfl ?_), trivial⟩
   refine zp (q_assign rfl rfl) ?_
   change AN _ _ _ _ _ _ _ _
   refine an_all [8] (by kernel_rfl) rfl ⟨.inl (ao_py rfl ?_), trivial⟩
   refine zp (q_assign rfl rfl) ?_
   change AN _ _ _ _ _ _ _ _
   refine an_done (by kernel_rfl) ?_
   exact weak_scrub' rfl (zz4 (zz2 trivial)) ⟨rfl, rfl, rfl, rfl, rfl, rfl, rfl, rfl, rfl, trivial⟩
  refine zp (q_bslice rfl rfl rfl rfl (by exact rfl) (by decide) (by decide)) ?_
  change AN _ _ _ _ _ _ _ _
  refine an_all [0, 2] (by kernel_rfl) rfl ⟨.inl (ao_py rfl ?_), .inl (ao_py rfl ?_), trivial⟩
  ·
   refine zl ?_
   change AN _ _ _ _ _ _ _ _
   refine an_all [2] (by kernel_rfl) rfl ⟨.inl (ao_py rfl ?_), trivial⟩
   refine zp (q_call (set34_fc [[98]]) rfl rfl rfl) ?_
   change AN _ _ _ _ _ _ _ _
   refine an_all [3] (by kernel_rfl) rfl ⟨.inr (.inr (nw_ncall hN rfl rfl newP_fn (.fn _ _ _ _ rfl rfl) rfl rfl rfl rfl rfl ?_)), trivial⟩
   change AN _ _ _ _ _ _ _ _
   refine an_all [4] (by kernel_rfl) rfl ⟨.inl (ao_py rfl ?_), trivial⟩
   refine zm ?_
   change AN _ _ _ _ _ _ _ _
   refine an_all [5, 6] (by kernel_rfl) rfl ⟨.inl (ao_py rfl ?_), .inl (ao_py rfl ?_), trivial⟩
   ·
    refine zp (q_extract rfl rfl rfl) ?_
    change AN _ _ _ _ _ _ _ _
    refine an_all [6, 7] (by kernel_rfl) rfl ⟨.inl (ao_py rfl ?_), .inl (ao_py rfl ?_), trivial⟩
    ·
     refine zp (q_extract rfl rfl rfl) ?_
     change AN _ _ _ _ _ _ _ _
     refine an_all [7] (by kernel_rfl) rfl ⟨.inl (ao_py rfl ?_), trivial⟩
     refine zp (q_assign rfl rfl) ?_
     change AN _ _ _ _ _ _ _ _
     refine an_all [8] (by kernel_rfl) rfl ⟨.inl (ao_py rfl ?_), trivial⟩
     refine zp (q_assign rfl rfl) ?_
     change AN _ _ _ _ _ _ _ _
     refine an_done (by kernel_rfl) ?_
     exact weak_scrub' rfl (zz4 (zz2 trivial)) ⟨rfl, rfl, rfl, rfl, rfl, rfl, rfl, rfl, rfl, trivial⟩
    refine zp (q_assign rfl rfl) ?_
    change AN _ _ _ _ _ _ _ _
    refine an_all [6] (by kernel_rfl) rfl ⟨.inl (ao_py rfl ?_), trivial⟩
    refine zp (q_extract rfl rfl rfl) ?_
    change AN _ _ _ _ _ _ _ _
    refine an_all [8] (by kernel_rfl) rfl ⟨.inl (ao_py rfl ?_), trivial⟩
    refine zp (q_assign rfl rfl) ?_
    change AN _ _ _ _ _ _ _ _
    refine an_done (by kernel_rfl) ?_
    exact weak_scrub' rfl (zz4 (zz2 trivial)) ⟨rfl, rfl, rfl, rfl, rfl, rfl, rfl, rfl, rfl, trivial⟩
   refine zp (q_extract rfl rfl rfl) ?_
   change AN _ _ _ _ _ _ _ _
   refine an_all [5] (by kernel_rfl) rfl ⟨.inl (ao_py rfl ?_), trivial⟩
   refine zp (q_extract rfl rfl rfl) ?_
   change AN _ _ _ _ _ _ _ _
   refine an_all [7] (by kernel_rfl) rfl ⟨.inl (ao_py rfl ?_), trivial⟩
   refine zp (q_assign rfl rfl) ?_
   change AN _ _ _ _ _ _ _ _
   refine an_all [8] (by kernel_rfl) rfl ⟨.inl (ao_py rfl ?_), trivial⟩
   refine zp (q_assign rfl rfl) ?_
   change AN _ _ _ _ _ _ _ _
   refine an_done (by kernel_rfl) ?_
   exact weak_scrub' rfl (zz4 (zz2 trivial)) ⟨rfl, rfl, rfl, rfl, rfl, rfl, rfl, rfl, rfl, trivial⟩
  refine zp (q_call (set34_fc [[98]]) rfl rfl rfl) ?_
  change AN _ _ _ _ _ _ _ _
  refine an_all [0] (by kernel_rfl) rfl ⟨.inl (ao_py rfl ?_), trivial⟩
  refine zl ?_
  change AN _ _ _ _ _ _ _ _
  refine an_all [3] (by kernel_rfl) rfl ⟨.inr (.inr (nw_ncall hN rfl rfl newP_fn (.fn _ _ _ _ rfl rfl) rfl rfl rfl rfl rfl ?_)), trivial⟩
  change AN _ _ _ _ _ _ _ _
  refine an_all [4] (by kernel_rfl) rfl ⟨.inl (ao_py rfl ?_), trivial⟩
  refine zm ?_
  change AN _ _ _ _ _ _ _ _
  refine an_all [5, 6] (by kernel_rfl) rfl ⟨.inl (ao_py rfl ?_), .inl (ao_py rfl ?_), trivial⟩
  ·
   refine zp (q_extract rfl rfl rfl) ?_
   change AN _ _ _ _ _ _ _ _
   refine an_all [6, 7] (by kernel_rfl) rfl ⟨.inl (ao_py rfl ?_), .inl (ao_py rfl ?_), trivial⟩
   ·
    refine zp (q_extract rfl rfl rfl) ?_
    change AN _ _ _ _ _ _ _ _
    refine an_all [7] (by kernel_rfl) rfl ⟨.inl (ao_py rfl ?_), trivial⟩
    refine zp (q_assign rfl rfl) ?_
    change AN _ _ _ _ _ _ _ _
    refine an_all [8] (by kernel_rfl) rfl ⟨.inl (ao_py rfl ?_), trivial⟩
    refine zp (q_assign rfl rfl) ?_
    change AN _ _ _ _ _ _ _ _
    refine an_done (by kernel_rfl) ?_
    exact weak_scrub' rfl (zz4 (zz2 trivial)) ⟨rfl, rfl, rfl, rfl, rfl, rfl, rfl, rfl, rfl, trivial⟩
   refine zp (q_assign rfl rfl) ?_
   change AN _ _ _ _ _ _ _ _
   refine an_all [6] (by kernel_rfl) rfl ⟨.inl (ao_py rfl ?_), trivial⟩
   refine zp (q_extract rfl rfl rfl) ?_
   change AN _ _ _ _ _ _ _ _
   refine an_all [8] (by kernel_rfl) rfl ⟨.inl (ao_py rfl ?_), trivial⟩
   refine zp (q_assign rfl rfl) ?_
   change AN _ _ _ _ _ _ _ _
   refine an_done (by kernel_rfl) ?_
   exact weak_scrub' rfl (zz4 (zz2 trivial)) ⟨rfl, rfl, rfl, rfl, rfl, rfl, rfl, rfl, rfl, trivial⟩
  refine zp (q_extract rfl rfl rfl) ?_
  change AN _ _ _ _ _ _ _ _
  refine an_all [5] (by kernel_rfl) rfl ⟨.inl (ao_py rfl ?_), trivial⟩
  refine zp (q_extract rfl rfl rfl) ?_
  change AN _ _ _ _ _ _ _ _
  refine an_all [7] (by kernel_rfl) rfl ⟨.inl (ao_py rfl ?_), trivial⟩
  refine zp (q_assign rfl rfl) ?_
  change AN _ _ _ _ _ _ _ _
  refine an_all [8] (by kernel_rfl) rfl ⟨.inl (ao_py rfl ?_), trivial⟩
  refine zp (q_assign rfl rfl) ?_
  change AN _ _ _ _ _ _ _ _
  refine an_done (by kernel_rfl) ?_
  exact weak_scrub' rfl (zz4 (zz2 trivial)) ⟨rfl, rfl, rfl, rfl, rfl, rfl, rfl, rfl, rfl, trivial⟩
 refine zH ?_; refine zM ?_; refine zB ?_; refine zM ?_; refine zM ?_; refine zB ?_; refine zh0 rfl ?_; refine zM ?_; refine zM ?_; refine zB ?_
 refine zh0 rfl ?_; refine zM ?_; refine zM ?_; refine s_gcall1 hN 3 balP1 (.fn _ _ _ _ rfl rfl) rfl rfl rfl rfl rfl rfl rfl rfl rfl rfl rfl ?_
 refine zE ?_; refine zB ?_; refine zh0 rfl ?_; refine zN ?_; refine c_false rfl rfl ?_; refine zW ?_; refine zG ?_; refine zM ?_
 refine zP (q_bslice rfl rfl rfl rfl (by exact rfl) (by decide) (by decide)) ?_; refine zP (q_call (set34_fc [[97]]) rfl rfl rfl) ?_
 refine zP (q_build rfl rfl rfl) ?_; refine s_gcall1 hN 1 aR0 (.fn _ _ _ _ rfl rfl) rfl rfl rfl rfl rfl rfl rfl rfl rfl rfl rfl ?_; refine zM ?_
 refine zP (q_extract rfl rfl rfl) ?_; refine zP (q_extract rfl rfl rfl) ?_; refine zO ?_; refine zC ?_; refine zT ?_; refine zH ?_; refine zM ?_
 refine zB ?_; refine zM ?_; refine zF ?_; refine zL ?_; refine zB ?_; refine zh0 rfl ?_; refine zM ?_; refine zF ?_; refine zL ?_; refine zB ?_
 refine zh0 rfl ?_; refine zM ?_; refine zF ?_; refine zL ?_; refine zB ?_; refine zh0 rfl ?_; refine zN ?_; refine c_false rfl rfl ?_; refine zW ?_
 refine zH ?_; refine zT ?_; refine awp_block ?_
 refine awp_loop (fun x : {i : Nat // i ≤ 2} => ⟨[(2, .ptr 1 0), (4, .ptr 2 0), (6, .ptr 3 0), (10, i64 (x.1 + 1))], [(1, .var 92 (accC sL 1 (wA x.1))), (2, .var 92 (accC sL 2 (wB x.1))), (3, .var 98 (wP x.1))], 4⟩) (fun x => 2 - x.1) (⟨0, by decide⟩) ?_ ?_
 ·
  exact weak_scrub' rfl (zz4 trivial) ⟨rfl, rfl, rfl, rfl, rfl, rfl, rfl, rfl, rfl, trivial⟩
 rintro ⟨i, hi⟩
 dsimp only
 rcases (show i = 0 ∨ i = 1 ∨ i = 2 by omega) with rfl | rfl | rfl
 ·
  skip
  refine zH ?_; refine zM ?_; refine zB ?_; refine zN ?_; refine c_true rfl rfl ?_; refine zW ?_; refine awp_seq ?_; refine awp_block ?_; refine zG ?_
  refine zM ?_; refine s_gcall1 hN 3 balP1 (.fn _ _ _ _ rfl rfl) rfl rfl rfl rfl rfl rfl rfl rfl rfl rfl rfl ?_; refine zT ?_; refine zH ?_
  refine zM ?_; refine zE ?_; refine zB ?_; refine zM ?_; refine zM ?_
  refine zP (q_elem rfl rfl rfl 1 rfl (balC (⟨1, 1, 1, 1, sB⟩ : Bal)) rfl (by exact rfl)) ?_; refine zF ?_; refine zL ?_; refine zM ?_; refine zB ?_
  refine zh0 rfl ?_; refine zN ?_; refine c_false rfl rfl ?_; refine zW ?_; refine zG ?_; refine zM ?_; refine zM ?_
  refine zP (q_elem rfl rfl rfl 1 rfl (balC (⟨1, 1, 1, 1, sB⟩ : Bal)) rfl (by exact rfl)) ?_; refine zL ?_
  refine s_gcall1 hN 1 aR1 (.fn _ _ _ _ rfl rfl) rfl rfl rfl rfl rfl rfl rfl rfl rfl rfl rfl ?_; refine zM ?_; refine zP (q_extract rfl rfl rfl) ?_
  refine zP (q_extract rfl rfl rfl) ?_; refine zO ?_; refine zC ?_; refine zS ?_; refine zA ?_; refine zM ?_; refine zM ?_
  refine zP (q_elem rfl rfl rfl 2 rfl (balC (⟨1, 1, 2, 1, sB⟩ : Bal)) rfl (by exact rfl)) ?_; refine zL ?_
  refine s_gcall1 hN 2 bR1 (.fn _ _ _ _ rfl rfl) rfl rfl rfl rfl rfl rfl rfl rfl rfl rfl rfl ?_; refine zM ?_; refine zP (q_extract rfl rfl rfl) ?_
  refine zP (q_extract rfl rfl rfl) ?_; refine zO ?_; refine zC ?_; refine zT ?_; refine zH ?_; refine zM ?_; refine zB ?_; refine zM ?_; refine zM ?_
  refine zB ?_; refine zh0 rfl ?_; refine zM ?_; refine zF ?_; refine zL ?_; refine zB ?_; refine zh0 rfl ?_; refine zM ?_; refine zF ?_; refine zL ?_
  refine zB ?_; refine zM ?_; refine zB ?_; refine zB ?_; refine zh0 rfl ?_; refine zN ?_; refine c_false rfl rfl ?_; refine zW ?_; refine zG ?_
  refine zM ?_; refine zL ?_; refine s_gcall1 hN 3 rec1 (.fn _ _ _ _ rfl rfl) rfl rfl rfl rfl rfl rfl rfl rfl rfl rfl rfl ?_; refine zB ?_
  refine zM ?_; refine zM ?_; refine zL ?_; refine s_gcall1 hN 3 rec2 (.fn _ _ _ _ rfl rfl) rfl rfl rfl rfl rfl rfl rfl rfl rfl rfl rfl ?_
  refine zB ?_; refine zh0 rfl ?_; refine zM ?_; refine zM ?_; refine zL ?_
  refine s_gcall1 hN 3 rec3 (.fn _ _ _ _ rfl rfl) rfl rfl rfl rfl rfl rfl rfl rfl rfl rfl rfl ?_; refine zB ?_; refine zh0 rfl ?_; refine zN ?_
  refine c_false rfl rfl ?_; refine awp_skip ?_; change AWP _ _ _ _  _; refine awp_region ?_; refine zM ?_
  refine zP (q_addi rfl rfl rfl (by decide)) ?_; refine zS ?_; refine aops_nil ?_
  exact ⟨⟨1, by decide⟩, weak_scrub' rfl (zz4 trivial) ⟨rfl, rfl, rfl, rfl, rfl, rfl, rfl, rfl, rfl, trivial⟩, by decide⟩
 ·
  skip
  refine zH ?_; refine zM ?_; refine zB ?_; refine zN ?_; refine c_true rfl rfl ?_; refine zW ?_; refine awp_seq ?_; refine awp_block ?_; refine zG ?_
  refine zM ?_; refine s_gcall1 hN 3 balP3 (.fn _ _ _ _ rfl rfl) rfl rfl rfl rfl rfl rfl rfl rfl rfl rfl rfl ?_; refine zT ?_; refine zH ?_
  refine zM ?_; refine zE ?_; refine zB ?_; refine zM ?_; refine zM ?_
  refine zP (q_elem rfl rfl rfl 1 rfl (balC (⟨1, 1, 1, 2, sAB⟩ : Bal)) rfl (by exact rfl)) ?_; refine zF ?_; refine zL ?_; refine zM ?_; refine zB ?_
  refine zh0 rfl ?_; refine zN ?_; refine c_false rfl rfl ?_; refine zW ?_; refine zG ?_; refine zM ?_; refine zM ?_
  refine zP (q_elem rfl rfl rfl 1 rfl (balC (⟨1, 1, 1, 2, sAB⟩ : Bal)) rfl (by exact rfl)) ?_; refine zL ?_
  refine s_gcall1 hN 1 aR2 (.fn _ _ _ _ rfl rfl) rfl rfl rfl rfl rfl rfl rfl rfl rfl rfl rfl ?_; refine zM ?_; refine zP (q_extract rfl rfl rfl) ?_
  refine zP (q_extract rfl rfl rfl) ?_; refine zO ?_; refine zC ?_; refine zS ?_; refine zA ?_; refine zM ?_; refine zM ?_
  refine zP (q_elem rfl rfl rfl 2 rfl (balC (⟨1, 1, 2, 2, sAB⟩ : Bal)) rfl (by exact rfl)) ?_; refine zL ?_
  refine s_gcall1 hN 2 bR2 (.fn _ _ _ _ rfl rfl) rfl rfl rfl rfl rfl rfl rfl rfl rfl rfl rfl ?_; refine zM ?_; refine zP (q_extract rfl rfl rfl) ?_
  refine zP (q_extract rfl rfl rfl) ?_; refine zO ?_; refine zC ?_; refine zT ?_; refine zH ?_; refine zM ?_; refine zB ?_; refine zM ?_; refine zM ?_
  refine zB ?_; refine zh0 rfl ?_; refine zM ?_; refine zF ?_; refine zL ?_; refine zB ?_; refine zh0 rfl ?_; refine zM ?_; refine zF ?_; refine zL ?_
  refine zB ?_; refine zM ?_; refine zB ?_; refine zB ?_; refine zh0 rfl ?_; refine zN ?_; refine c_false rfl rfl ?_; refine zW ?_; refine zG ?_
  refine zM ?_; refine zL ?_; refine s_gcall1 hN 3 rec4 (.fn _ _ _ _ rfl rfl) rfl rfl rfl rfl rfl rfl rfl rfl rfl rfl rfl ?_; refine zB ?_
  refine zM ?_; refine zM ?_; refine zL ?_; refine s_gcall1 hN 3 rec5 (.fn _ _ _ _ rfl rfl) rfl rfl rfl rfl rfl rfl rfl rfl rfl rfl rfl ?_
  refine zB ?_; refine zh0 rfl ?_; refine zM ?_; refine zM ?_; refine zL ?_
  refine s_gcall1 hN 3 rec6 (.fn _ _ _ _ rfl rfl) rfl rfl rfl rfl rfl rfl rfl rfl rfl rfl rfl ?_; refine zB ?_; refine zh0 rfl ?_; refine zN ?_
  refine c_false rfl rfl ?_; refine awp_skip ?_; change AWP _ _ _ _  _; refine awp_region ?_; refine zM ?_
  refine zP (q_addi rfl rfl rfl (by decide)) ?_; refine zS ?_; refine aops_nil ?_
  exact ⟨⟨2, by decide⟩, weak_scrub' rfl (zz4 trivial) ⟨rfl, rfl, rfl, rfl, rfl, rfl, rfl, rfl, rfl, trivial⟩, by decide⟩
 skip
 refine zH ?_; refine zM ?_; refine zB ?_; refine zN ?_; refine c_false rfl rfl ?_; refine awp_exit ?_; change AWP _ _ _ _  _; refine zG ?_
 refine zM ?_; refine s_gcall1 hN 3 decP_gc (.fn _ _ _ _ rfl rfl) rfl rfl rfl rfl rfl rfl rfl rfl rfl rfl rfl ?_; refine zM ?_
 refine zP (q_extract rfl rfl rfl) ?_; refine zP (q_extract rfl rfl rfl) ?_; refine zO ?_; refine zC ?_; refine zT ?_; refine awp_seq ?_
 refine awp_draw 18 (by kernel_rfl) (by kernel_rfl) ?_; refine zm ?_; refine zm ?_
 refine zd 151 ?_ ?_ <;> intro h159
 ·
  refine vP (w11 h159) (q_load rfl rfl rfl rfl rfl) ?_; refine vP (w11 h159) (q_bslice rfl rfl rfl rfl (by exact rfl) (by decide) (by decide)) ?_
  refine vP (w11 h159) (q_call (set34_fc [[97], [98]]) rfl rfl rfl) ?_
  refine vP (w11 h159) (q_call (fcb (c := true) (rEqual_fc sAB sAB) (by decide)) rfl rfl rfl) ?_; refine zp (q_pick1 rfl rfl h159 rfl) ?_; refine zm ?_
  refine zm ?_; refine zp (q_gread1 3 numP_gc rfl rfl rfl rfl rfl rfl rfl rfl rfl) ?_; refine zp (q_bin rfl rfl rfl) ?_
  refine zp (q_pick1 rfl rfl rfl rfl) ?_; refine zm ?_; refine zm ?_; refine zp (q_gread1 3 balP5 rfl rfl rfl rfl rfl rfl rfl rfl rfl) ?_; refine ze ?_
  refine zp (q_bin rfl rfl rfl) ?_; refine zp (q_pick1 rfl rfl rfl rfl) ?_; change AOps _ _ _ _ _ _; refine zS ?_; refine zQ ?_
  first | rfl | (exfalso; simp_all; done)
 iterate 4 refine vK (w01 h159) ?_
 refine zp (q_pick0 rfl rfl h159 rfl) ?_; refine zm ?_
 iterate 3 refine zk ?_
 refine zp (q_pick0 rfl rfl rfl rfl) ?_; refine zm ?_
 iterate 4 refine zk ?_
 refine zp (q_pick0 rfl rfl rfl rfl) ?_; change AOps _ _ _ _ _ _; refine zS ?_; refine zQ ?_
 first | rfl | (exfalso; simp_all; done)
end Go.Proofs.YtnjmbgnaplomaaaGreat

namespace Go.Proofs.YtnjmbgnaplomaaaGreat
open Go.RowKit
theorem eqV_self (x : Val) : eqV x x = true := (eqV_iff x x).2 rfl
end Go.Proofs.YtnjmbgnaplomaaaGreat
