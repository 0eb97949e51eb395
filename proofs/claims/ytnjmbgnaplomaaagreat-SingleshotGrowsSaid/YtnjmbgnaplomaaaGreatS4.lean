/-
  Contracts: the chapter's example.
  The laws SingleshotGrows and SingleshotAcceptor.
-/
import Derived.Test.YtnjmbgnaplomaaaGreatS3
import Derived.Test.YtnjmbgnaplomaaaGreatS1
namespace Go.Proofs.YtnjmbgnaplomaaaGreat
open Go.RowKit
theorem newA1 (id : Int) (h0 : 0 ≤ id) (h1 : id < 12) : FN Tryz.prog 12 [.agg (latL sL), i64 id] 92 (accC sL id Val.zero) (i64 0) := newA_fn sL id sCk h0 h1
theorem aR0 : GC Tryz.prog 16 [.ptr idB 0, .agg (balC (⟨1, 0, 1, 1, sA⟩ : Bal))] [(idB, .var 92 (accC sL 1 Val.zero))] (.tup [.agg (balC (⟨2, 1, 0, 1, Val.zero⟩ : Bal)), i64 0]) [(idB, .var 92 (accC sL 1 sA))] := recvA_gc sL 1 Val.zero (⟨1, 0, 1, 1, sA⟩ : Bal) sCk (by decide) ((sm_small (by kernel_rfl)).up (by decide)) (sm_small (by kernel_rfl))
theorem aR1 : GC Tryz.prog 16 [.ptr idB 0, .agg (balC (⟨1, 1, 1, 1, sB⟩ : Bal))] [(idB, .var 92 (accC sL 1 sA))] (.tup [.agg (balC (⟨3, 1, 1, 1, sAB⟩ : Bal)), i64 0]) [(idB, .var 92 (accC sL 1 sAB))] := recvA_gc sL 1 sA (⟨1, 1, 1, 1, sB⟩ : Bal) sCk (by decide) ((sm_small (by kernel_rfl)).up (by decide)) (sm_small (by kernel_rfl))
theorem aR2 : GC Tryz.prog 16 [.ptr idB 0, .agg (balC (⟨1, 1, 1, 2, sAB⟩ : Bal))] [(idB, .var 92 (accC sL 1 sAB))] (.tup [.agg (balC (⟨2, 1, 1, 2, Val.zero⟩ : Bal)), i64 0]) [(idB, .var 92 (accC sL 1 sAB))] := recvA_gc sL 1 sAB (⟨1, 1, 1, 2, sAB⟩ : Bal) sCk (by decide) ((sm_small (by kernel_rfl)).up (by decide)) (sm_small (by kernel_rfl))
theorem bR1 : GC Tryz.prog 16 [.ptr idB 0, .agg (balC (⟨1, 1, 2, 1, sB⟩ : Bal))] [(idB, .var 92 (accC sL 2 Val.zero))] (.tup [.agg (balC (⟨2, 2, 1, 1, Val.zero⟩ : Bal)), i64 0]) [(idB, .var 92 (accC sL 2 sB))] := recvA_gc sL 2 Val.zero (⟨1, 1, 2, 1, sB⟩ : Bal) sCk (by decide) ((sm_small (by kernel_rfl)).up (by decide)) (sm_small (by kernel_rfl))
theorem bR2 : GC Tryz.prog 16 [.ptr idB 0, .agg (balC (⟨1, 1, 2, 2, sAB⟩ : Bal))] [(idB, .var 92 (accC sL 2 sB))] (.tup [.agg (balC (⟨2, 2, 1, 2, Val.zero⟩ : Bal)), i64 0]) [(idB, .var 92 (accC sL 2 sAB))] := recvA_gc sL 2 sB (⟨1, 1, 2, 2, sAB⟩ : Bal) sCk (by decide) ((sm_small (by kernel_rfl)).up (by decide)) (sm_small (by kernel_rfl))
def wA : Nat → Val | 0 => sA | _ => sAB
def wB : Nat → Val | 0 => Val.zero | 1 => sB | _ => sAB
def wP : Nat → List AV | 0 => (PR sB 1 false false 0 (.p (.slice none 0 0)) false) | 1 => (PR sAB 2 false false 0 (.p (.slice none 0 0)) false) | _ => (PR sAB 2 true true 2 (.p (.slice none 0 0)) true)
set_option maxRecDepth 100000 in
set_option maxHeartbeats 1000000 in
theorem awake34_fc : FC Tryz.prog 11 [] (bl true) := by
 refine fc_of_awp [0] Tryz.func11 rfl rfl 168 Tryz.ntmps11 (Nat.le_of_ble_eq_true rfl) ?_
 intro E hN
 refine zG ?_
 refine zS ?_
 refine zA ?_
 refine zP (q_build rfl rfl rfl) ?_
 refine zO ?_
 refine zC ?_
 refine zA ?_
 refine zL ?_
 refine s_ncall hN rfl (newA1 1 (by decide) (by decide)) (.fn _ _ _ _ rfl rfl) rfl rfl rfl rfl rfl ?_
 refine zM ?_
 refine zP (q_extract rfl rfl rfl) ?_
 refine zP (q_extract rfl rfl rfl) ?_
 refine zS ?_
 refine zS ?_
 refine zA ?_
 refine zL ?_
 refine s_ncall hN rfl (newA1 2 (by decide) (by decide)) (.fn _ _ _ _ rfl rfl) rfl rfl rfl rfl rfl ?_
 refine zM ?_
 refine zP (q_extract rfl rfl rfl) ?_
 refine zP (q_extract rfl rfl rfl) ?_
 refine zS ?_
 refine zT ?_
 refine c_cut (⟨[(2, .ptr 1 0), (3, i64 0), (4, .ptr 2 0), (5, i64 0), (6, .ptr 3 0), (7, i64 0)], [(1, .var 92 (accC sL 1 Val.zero)), (2, .var 92 (accC sL 2 Val.zero)), (3, .var 98 (PR sB 1 false false 0 (.p (.slice none 0 0)) false))], 4⟩) ?_ ?_
 ·
  refine awp_mixed 0 9 #[false, false, false, false, false, false, false, false, false] (by kernel_rfl) (by kernel_rfl) (by kernel_rfl) (by kernel_rfl) (by kernel_rfl) (by kernel_rfl) ?_
  refine ⟨_, Weak.refl, ?_⟩
  refine an_all [0, 1] (by kernel_rfl) rfl ⟨.inl (ao_py rfl ?_), .inl (ao_py rfl ?_), trivial⟩
  ·
   refine zl ?_
   change AN _ _ _ _ _ _ _ _
   refine an_all [1] (by kernel_rfl) rfl ⟨.inl (ao_py rfl ?_), trivial⟩
   refine zp (q_bslice rfl rfl rfl rfl (by exact rfl) (by decide) (by decide)) ?_
   change AN _ _ _ _ _ _ _ _
   refine an_all [2] (by kernel_rfl) rfl ⟨.inl (ao_py rfl ?_), trivial⟩
   refine zp (q_call (set34_fc [[98]]) rfl rfl rfl) ?_
   change AN _ _ _ _ _ _ _ _
   refine an_all [3] (by kernel_rfl) rfl ⟨.inr (.inr (nw_ncall hN rfl rfl newP_fn (.fn _ _ _ _ rfl rfl) rfl rfl rfl rfl rfl ?_)), trivial⟩
   change AN _ _ _ _ _ _ _ _
   refine an_all [4] (by kernel_rfl) rfl ⟨.inl (ao_py rfl ?_), trivial⟩
   refine zm ?_
   change AN _ _ _ _ _ _ _ _
   refine an_all [5, 6] (by kernel_rfl) rfl ⟨.inl (ao_py rfl ?_), .inl (ao_py rfl ?_), trivial⟩
   ·
    refine zp (q_extract rfl rfl rfl) ?_
    change AN _ _ _ _ _ _ _ _
    refine an_all [6, 7] (by kernel_rfl) rfl ⟨.inl (ao_py rfl ?_), .inl (ao_py rfl ?_), trivial⟩
    ·
     refine zp (q_extract rfl rfl rfl) ?_
     change AN _ _ _ _ _ _ _ _
     refine an_all [7] (by kernel_rfl) rfl ⟨.inl (ao_py rfl ?_), trivial⟩
     refine zp (q_assign rfl rfl) ?_
     change AN _ _ _ _ _ _ _ _
     refine an_all [8] (by kernel_rfl) rfl ⟨.inl (ao_py rfl ?_), trivial⟩
     refine zp (q_assign rfl rfl) ?_
     change AN _ _ _ _ _ _ _ _
     refine an_done (by kernel_rfl) ?_
     exact weak_scrub' rfl (zz4 (zz2 trivial)) ⟨rfl, rfl, rfl, rfl, rfl, rfl, rfl, rfl, rfl, trivial⟩
    refine zp (q_assign rfl rfl) ?_
    change AN _ _ _ _ _ _ _ _
    refine an_all [6] (by kernel_rfl) rfl ⟨.inl (ao_py rfl ?_), trivial⟩
    refine zp (q_extract rfl rfl rfl) ?_
    change AN _ _ _ _ _ _ _ _
    refine an_all [8] (by kernel_rfl) rfl ⟨.inl (ao_py rfl ?_), trivial⟩
    refine zp (q_assign rfl rfl) ?_
    change AN _ _ _ _ _ _ _ _
    refine an_done (by kernel_rfl) ?_
    exact weak_scrub' rfl (zz4 (zz2 trivial)) ⟨rfl, rfl, rfl, rfl, rfl, rfl, rfl, rfl, rfl, trivial⟩
   refine zp (q_extract rfl rfl rfl) ?_
   change AN _ _ _ _ _ _ _ _
   refine an_all [5] (by kernel_rfl) rfl ⟨.inl (ao_py rfl ?_), trivial⟩
   refine zp (q_extract rfl rfl rfl) ?_
   change AN _ _ _ _ _ _ _ _
   refine an_all [7] (by kernel_rfl) rfl ⟨.inl (ao_py rfl ?_), trivial⟩
   refine zp (q_assign rfl rfl) ?_
   change AN _ _ _ _ _ _ _ _
   refine an_all [8] (by kernel_rfl) rfl ⟨.inl (ao_py rfl ?_), trivial⟩
   refine zp (q_assign rfl rfl) ?_
   change AN _ _ _ _ _ _ _ _
   refine an_done (by kernel_rfl) ?_
   exact weak_scrub' rfl (zz4 (zz2 trivial)) ⟨rfl, rfl, rfl, rfl, rfl, rfl, rfl, rfl, rfl, trivial⟩
  refine zp (q_bslice rfl rfl rfl rfl (by exact rfl) (by decide) (by decide)) ?_
  change AN _ _ _ _ _ _ _ _
  refine an_all [0, 2] (by kernel_rfl) rfl ⟨.inl (ao_py rfl ?_), .inl (ao_py rfl ?_), trivial⟩
  ·
   refine zl ?_
   change AN _ _ _ _ _ _ _ _
   refine an_all [2] (by kernel_rfl) rfl ⟨.inl (ao_py rfl ?_), trivial⟩
   refine zp (q_call (set34_fc [[98]]) rfl rfl rfl) ?_
   change AN _ _ _ _ _ _ _ _
   refine an_all [3] (by kernel_rfl) rfl ⟨.inr (.inr (nw_ncall hN rfl rfl newP_fn (.fn _ _ _ _ rfl rfl) rfl rfl rfl rfl rfl ?_)), trivial⟩
   change AN _ _ _ _ _ _ _ _
   refine an_all [4] (by kernel_rfl) rfl ⟨.inl (ao_py rfl ?_), trivial⟩
   refine zm ?_
   change AN _ _ _ _ _ _ _ _
   refine an_all [5, 6] (by kernel_rfl) rfl ⟨.inl (ao_py rfl ?_), .inl (ao_py rfl ?_), trivial⟩
   ·
    refine zp (q_extract rfl rfl rfl) ?_
    change AN _ _ _ _ _ _ _ _
    refine an_all [6, 7] (by kernel_rfl) rfl ⟨.inl (ao_py rfl ?_), .inl (ao_py rfl ?_), trivial⟩
    ·
     refine zp (q_extract rfl rfl rfl) ?_
     change AN _ _ _ _ _ _ _ _
     refine an_all [7] (by kernel_rfl) rfl ⟨.inl (ao_py rfl ?_), trivial⟩
     refine zp (q_assign rfl rfl) ?_
     change AN _ _ _ _ _ _ _ _
     refine an_all [8] (by kernel_rfl) rfl ⟨.inl (ao_py rfl ?_), trivial⟩
     refine zp (q_assign rfl rfl) ?_
     change AN _ _ _ _ _ _ _ _
     refine an_done (by kernel_rfl) ?_
     exact weak_scrub' rfl (zz4 (zz2 trivial)) ⟨rfl, rfl, rfl, rfl, rfl, rfl, rfl, rfl, rfl, trivial⟩
    refine zp (q_assign rfl rfl) ?_
    change AN _ _ _ _ _ _ _ _
    refine an_all [6] (by kernel_rfl) rfl ⟨.inl (ao_py rfl ?_), trivial⟩
    refine zp (q_extract rfl rfl rfl) ?_
    change AN _ _ _ _ _ _ _ _
    refine an_all [8] (by kernel_rfl) rfl ⟨.inl (ao_py rfl ?_), trivial⟩
    refine zp (q_assign rfl rfl) ?_
    change AN _ _ _ _ _ _ _ _
    refine an_done (by kernel_rfl) ?_
    exact weak_scrub' rfl (zz4 (zz2 trivial)) ⟨rfl, rfl, rfl, rfl, rfl, rfl, rfl, rfl, rfl, trivial⟩
   refine zp (q_extract rfl rfl rfl) ?_
   change AN _ _ _ _ _ _ _ _
   refine an_all [5] (by kernel_rfl) rfl ⟨.inl (ao_py rfl ?_), trivial⟩
   refine zp (q_extract rfl rfl rfl) ?_
   change AN _ _ _ _ _ _ _ _
   refine an_all [7] (by kernel_rfl) rfl ⟨.inl (ao_py rfl ?_), trivial⟩
   refine zp (q_assign rfl rfl) ?_
   change AN _ _ _ _ _ _ _ _
   refine an_all [8] (by kernel_rfl) rfl ⟨.inl (ao_py rfl ?_), trivial⟩
   refine zp (q_assign rfl rfl) ?_
   change AN _ _ _ _ _ _ _ _
   refine an_done (by kernel_rfl) ?_
   exact weak_scrub' rfl (zz4 (zz2 trivial)) ⟨rfl, rfl, rfl, rfl, rfl, rfl, rfl, rfl, rfl, trivial⟩
  refine zp (q_call (set34_fc [[98]]) rfl rfl rfl) ?_
  change AN _ _ _ _ _ _ _ _
  refine an_all [0] (by kernel_rfl) rfl ⟨.inl (ao_py rfl ?_), trivial⟩
  refine zl ?_
  change AN _ _ _ _ _ _ _ _
  refine an_all [3] (by kernel_rfl) rfl ⟨.inr (.inr (nw_ncall hN rfl rfl newP_fn (.fn _ _ _ _ rfl rfl) rfl rfl rfl rfl rfl ?_)), trivial⟩
  change AN _ _ _ _ _ _ _ _
  refine an_all [4] (by kernel_rfl) rfl ⟨.inl (ao_py rfl ?_), trivial⟩
  refine zm ?_
  change AN _ _ _ _ _ _ _ _
  refine an_all [5, 6] (by kernel_rfl) rfl ⟨.inl (ao_py rfl ?_), .inl (ao_py rfl ?_), trivial⟩
  ·
   refine zp (q_extract rfl rfl rfl) ?_
   change AN _ _ _ _ _ _ _ _
   refine an_all [6, 7] (by kernel_rfl) rfl ⟨.inl (ao_py rfl ?_), .inl (ao_py rfl ?_), trivial⟩
   ·
    refine zp (q_extract rfl rfl rfl) ?_
    change AN _ _ _ _ _ _ _ _
    refine an_all [7] (by kernel_rfl) rfl ⟨.inl (ao_py rfl ?_), trivial⟩
    refine zp (q_assign rfl rfl) ?_
    change AN _ _ _ _ _ _ _ _
    refine an_all [8] (by kernel_rfl) rfl ⟨.inl (ao_py rfl ?_), trivial⟩
    refine zp (q_assign rfl rfl) ?_
    change AN _ _ _ _ _ _ _ _
    refine an_done (by kernel_rfl) ?_
    exact weak_scrub' rfl (zz4 (zz2 trivial)) ⟨rfl, rfl, rfl, rfl, rfl, rfl, rfl, rfl, rfl, trivial⟩
   refine zp (q_assign rfl rfl) ?_
   change AN _ _ _ _ _ _ _ _
   refine an_all [6] (by kernel_rfl) rfl ⟨.inl (ao_py rfl ?_), trivial⟩
   refine zp (q_extract rfl rfl rfl) ?_
   change AN _ _ _ _ _ _ _ _
   refine an_all [8] (by kernel_rfl) rfl ⟨.inl (ao_py rfl ?_), trivial⟩
   refine zp (q_assign rfl rfl) ?_
   change AN _ _ _ _ _ _ _ _
   refine an_done (by kernel_rfl) ?_
   exact weak_scrub' rfl (zz4 (zz2 trivial)) ⟨rfl, rfl, rfl, rfl, rfl, rfl, rfl, rfl, rfl, trivial⟩
  refine zp (q_extract rfl rfl rfl) ?_
  change AN _ _ _ _ _ _ _ _
  refine an_all [5] (by kernel_rfl) rfl ⟨.inl (ao_py rfl ?_), trivial⟩
  refine zp (q_extract rfl rfl rfl) ?_
  change AN _ _ _ _ _ _ _ _
  refine an_all [7] (by kernel_rfl) rfl ⟨.inl (ao_py rfl ?_), trivial⟩
  refine zp (q_assign rfl rfl) ?_
  change AN _ _ _ _ _ _ _ _
  refine an_all [8] (by kernel_rfl) rfl ⟨.inl (ao_py rfl ?_), trivial⟩
  refine zp (q_assign rfl rfl) ?_
  change AN _ _ _ _ _ _ _ _
  refine an_done (by kernel_rfl) ?_
  exact weak_scrub' rfl (zz4 (zz2 trivial)) ⟨rfl, rfl, rfl, rfl, rfl, rfl, rfl, rfl, rfl, trivial⟩
 refine zH ?_
 refine zM ?_
 refine zB ?_
 refine zM ?_
 refine zM ?_
 refine zB ?_
 refine zP (q_pick0 rfl rfl rfl rfl) ?_
 refine zM ?_
 refine zM ?_
 refine zB ?_
 refine zP (q_pick0 rfl rfl rfl rfl) ?_
 refine zM ?_
 refine zM ?_
 refine s_gcall1 hN 3 balP1 (.fn _ _ _ _ rfl rfl) rfl rfl rfl rfl rfl rfl rfl rfl rfl rfl rfl ?_
 refine zE ?_
 refine zB ?_
 refine zP (q_pick0 rfl rfl rfl rfl) ?_
 refine zN ?_
 refine c_false rfl rfl ?_
 refine zW ?_
 refine zG ?_
 refine zM ?_
 refine zP (q_bslice rfl rfl rfl rfl (by exact rfl) (by decide) (by decide)) ?_
 refine zP (q_call (set34_fc [[97]]) rfl rfl rfl) ?_
 refine zP (q_build rfl rfl rfl) ?_
 refine s_gcall1 hN 1 aR0 (.fn _ _ _ _ rfl rfl) rfl rfl rfl rfl rfl rfl rfl rfl rfl rfl rfl ?_
 refine zM ?_
 refine zP (q_extract rfl rfl rfl) ?_
 refine zP (q_extract rfl rfl rfl) ?_
 refine zO ?_
 refine zC ?_
 refine zT ?_
 refine zH ?_
 refine zM ?_
 refine zB ?_
 refine zM ?_
 refine zF ?_
 refine zL ?_
 refine zB ?_
 refine zP (q_pick0 rfl rfl rfl rfl) ?_
 refine zM ?_
 refine zF ?_
 refine zL ?_
 refine zB ?_
 refine zP (q_pick0 rfl rfl rfl rfl) ?_
 refine zM ?_
 refine zF ?_
 refine zL ?_
 refine zB ?_
 refine zP (q_pick0 rfl rfl rfl rfl) ?_
 refine zN ?_
 refine c_false rfl rfl ?_
 refine zW ?_
 refine zH ?_
 refine zT ?_
 refine awp_block ?_
 refine awp_loop (fun x : {i : Nat // i ≤ 2} => ⟨[(2, .ptr 1 0), (4, .ptr 2 0), (6, .ptr 3 0), (10, i64 (x.1 + 1))], [(1, .var 92 (accC sL 1 (wA x.1))), (2, .var 92 (accC sL 2 (wB x.1))), (3, .var 98 (wP x.1))], 4⟩) (fun x => 2 - x.1) (⟨0, by decide⟩) ?_ ?_
 ·
  exact weak_scrub' rfl (zz4 trivial) ⟨rfl, rfl, rfl, rfl, rfl, rfl, rfl, rfl, rfl, trivial⟩
 rintro ⟨i, hi⟩
 dsimp only
 rcases (show i = 0 ∨ i = 1 ∨ i = 2 by omega) with rfl | rfl | rfl
 ·
  skip
  refine zH ?_
  refine zM ?_
  refine zB ?_
  refine zN ?_
  refine c_true rfl rfl ?_
  refine zW ?_
  refine awp_seq ?_
  refine awp_block ?_
  refine zG ?_
  refine zM ?_
  refine s_gcall1 hN 3 balP1 (.fn _ _ _ _ rfl rfl) rfl rfl rfl rfl rfl rfl rfl rfl rfl rfl rfl ?_
  refine zT ?_
  refine zH ?_
  refine zM ?_
  refine zE ?_
  refine zB ?_
  refine zM ?_
  refine zM ?_
  refine zP (q_elem rfl rfl rfl 1 rfl (balC (⟨1, 1, 1, 1, sB⟩ : Bal)) rfl (by exact rfl)) ?_
  refine zF ?_
  refine zL ?_
  refine zM ?_
  refine zB ?_
  refine zP (q_pick0 rfl rfl rfl rfl) ?_
  refine zN ?_
  refine c_false rfl rfl ?_
  refine zW ?_
  refine zG ?_
  refine zM ?_
  refine zM ?_
  refine zP (q_elem rfl rfl rfl 1 rfl (balC (⟨1, 1, 1, 1, sB⟩ : Bal)) rfl (by exact rfl)) ?_
  refine zL ?_
  refine s_gcall1 hN 1 aR1 (.fn _ _ _ _ rfl rfl) rfl rfl rfl rfl rfl rfl rfl rfl rfl rfl rfl ?_
  refine zM ?_
  refine zP (q_extract rfl rfl rfl) ?_
  refine zP (q_extract rfl rfl rfl) ?_
  refine zO ?_
  refine zC ?_
  refine zS ?_
  refine zA ?_
  refine zM ?_
  refine zM ?_
  refine zP (q_elem rfl rfl rfl 2 rfl (balC (⟨1, 1, 2, 1, sB⟩ : Bal)) rfl (by exact rfl)) ?_
  refine zL ?_
  refine s_gcall1 hN 2 bR1 (.fn _ _ _ _ rfl rfl) rfl rfl rfl rfl rfl rfl rfl rfl rfl rfl rfl ?_
  refine zM ?_
  refine zP (q_extract rfl rfl rfl) ?_
  refine zP (q_extract rfl rfl rfl) ?_
  refine zO ?_
  refine zC ?_
  refine zT ?_
  refine zH ?_
  refine zM ?_
  refine zB ?_
  refine zM ?_
  refine zM ?_
  refine zB ?_
  refine zP (q_pick0 rfl rfl rfl rfl) ?_
  refine zM ?_
  refine zF ?_
  refine zL ?_
  refine zB ?_
  refine zP (q_pick0 rfl rfl rfl rfl) ?_
  refine zM ?_
  refine zF ?_
  refine zL ?_
  refine zB ?_
  refine zM ?_
  refine zB ?_
  refine zB ?_
  refine zP (q_pick0 rfl rfl rfl rfl) ?_
  refine zN ?_
  refine c_false rfl rfl ?_
  refine zW ?_
  refine zG ?_
  refine zM ?_
  refine zL ?_
  refine s_gcall1 hN 3 rec1 (.fn _ _ _ _ rfl rfl) rfl rfl rfl rfl rfl rfl rfl rfl rfl rfl rfl ?_
  refine zB ?_
  refine zM ?_
  refine zM ?_
  refine zL ?_
  refine s_gcall1 hN 3 rec2 (.fn _ _ _ _ rfl rfl) rfl rfl rfl rfl rfl rfl rfl rfl rfl rfl rfl ?_
  refine zB ?_
  refine zP (q_pick0 rfl rfl rfl rfl) ?_
  refine zM ?_
  refine zM ?_
  refine zL ?_
  refine s_gcall1 hN 3 rec3 (.fn _ _ _ _ rfl rfl) rfl rfl rfl rfl rfl rfl rfl rfl rfl rfl rfl ?_
  refine zB ?_
  refine zP (q_pick0 rfl rfl rfl rfl) ?_
  refine zN ?_
  refine c_false rfl rfl ?_
  refine awp_skip ?_
  change AWP _ _ _ _  _
  refine awp_region ?_
  refine zM ?_
  refine zP (q_addi rfl rfl rfl (by decide)) ?_
  refine zS ?_
  refine aops_nil ?_
  exact ⟨⟨1, by decide⟩, weak_scrub' rfl (zz4 trivial) ⟨rfl, rfl, rfl, rfl, rfl, rfl, rfl, rfl, rfl, trivial⟩, by decide⟩
 ·
  skip
  refine zH ?_
  refine zM ?_
  refine zB ?_
  refine zN ?_
  refine c_true rfl rfl ?_
  refine zW ?_
  refine awp_seq ?_
  refine awp_block ?_
  refine zG ?_
  refine zM ?_
  refine s_gcall1 hN 3 balP3 (.fn _ _ _ _ rfl rfl) rfl rfl rfl rfl rfl rfl rfl rfl rfl rfl rfl ?_
  refine zT ?_
  refine zH ?_
  refine zM ?_
  refine zE ?_
  refine zB ?_
  refine zM ?_
  refine zM ?_
  refine zP (q_elem rfl rfl rfl 1 rfl (balC (⟨1, 1, 1, 2, sAB⟩ : Bal)) rfl (by exact rfl)) ?_
  refine zF ?_
  refine zL ?_
  refine zM ?_
  refine zB ?_
  refine zP (q_pick0 rfl rfl rfl rfl) ?_
  refine zN ?_
  refine c_false rfl rfl ?_
  refine zW ?_
  refine zG ?_
  refine zM ?_
  refine zM ?_
  refine zP (q_elem rfl rfl rfl 1 rfl (balC (⟨1, 1, 1, 2, sAB⟩ : Bal)) rfl (by exact rfl)) ?_
  refine zL ?_
  refine s_gcall1 hN 1 aR2 (.fn _ _ _ _ rfl rfl) rfl rfl rfl rfl rfl rfl rfl rfl rfl rfl rfl ?_
  refine zM ?_
  refine zP (q_extract rfl rfl rfl) ?_
  refine zP (q_extract rfl rfl rfl) ?_
  refine zO ?_
  refine zC ?_
  refine zS ?_
  refine zA ?_
  refine zM ?_
  refine zM ?_
  refine zP (q_elem rfl rfl rfl 2 rfl (balC (⟨1, 1, 2, 2, sAB⟩ : Bal)) rfl (by exact rfl)) ?_
  refine zL ?_
  refine s_gcall1 hN 2 bR2 (.fn _ _ _ _ rfl rfl) rfl rfl rfl rfl rfl rfl rfl rfl rfl rfl rfl ?_
  refine zM ?_
  refine zP (q_extract rfl rfl rfl) ?_
  refine zP (q_extract rfl rfl rfl) ?_
  refine zO ?_
  refine zC ?_
  refine zT ?_
  refine zH ?_
  refine zM ?_
  refine zB ?_
  refine zM ?_
  refine zM ?_
  refine zB ?_
  refine zP (q_pick0 rfl rfl rfl rfl) ?_
  refine zM ?_
  refine zF ?_
  refine zL ?_
  refine zB ?_
  refine zP (q_pick0 rfl rfl rfl rfl) ?_
  refine zM ?_
  refine zF ?_
  refine zL ?_
  refine zB ?_
  refine zM ?_
  refine zB ?_
  refine zB ?_
  refine zP (q_pick0 rfl rfl rfl rfl) ?_
  refine zN ?_
  refine c_false rfl rfl ?_
  refine zW ?_
  refine zG ?_
  refine zM ?_
  refine zL ?_
  refine s_gcall1 hN 3 rec4 (.fn _ _ _ _ rfl rfl) rfl rfl rfl rfl rfl rfl rfl rfl rfl rfl rfl ?_
  refine zB ?_
  refine zM ?_
  refine zM ?_
  refine zL ?_
  refine s_gcall1 hN 3 rec5 (.fn _ _ _ _ rfl rfl) rfl rfl rfl rfl rfl rfl rfl rfl rfl rfl rfl ?_
  refine zB ?_
  refine zP (q_pick0 rfl rfl rfl rfl) ?_
  refine zM ?_
  refine zM ?_
  refine zL ?_
  refine s_gcall1 hN 3 rec6 (.fn _ _ _ _ rfl rfl) rfl rfl rfl rfl rfl rfl rfl rfl rfl rfl rfl ?_
  refine zB ?_
  refine zP (q_pick0 rfl rfl rfl rfl) ?_
  refine zN ?_
  refine c_false rfl rfl ?_
  refine awp_skip ?_
  change AWP _ _ _ _  _
  refine awp_region ?_
  refine zM ?_
  refine zP (q_addi rfl rfl rfl (by decide)) ?_
  refine zS ?_
  refine aops_nil ?_
  exact ⟨⟨2, by decide⟩, weak_scrub' rfl (zz4 trivial) ⟨rfl, rfl, rfl, rfl, rfl, rfl, rfl, rfl, rfl, trivial⟩, by decide⟩
 skip
 refine zH ?_
 refine zM ?_
 refine zB ?_
 refine zN ?_
 refine c_false rfl rfl ?_
 refine awp_exit ?_
 change AWP _ _ _ _  _
 refine zG ?_
 refine zM ?_
 refine s_gcall1 hN 3 decP_gc (.fn _ _ _ _ rfl rfl) rfl rfl rfl rfl rfl rfl rfl rfl rfl rfl rfl ?_
 refine zM ?_
 refine zP (q_extract rfl rfl rfl) ?_
 refine zP (q_extract rfl rfl rfl) ?_
 refine zO ?_
 refine zC ?_
 refine zT ?_
 refine awp_seq ?_
 refine awp_draw 18 (by kernel_rfl) (by kernel_rfl) ?_
 refine zm ?_
 refine zm ?_
 refine d_case 151 rfl (fun h159 => ?_) (fun h159 => ?_)
 ·
  refine vP (w11 h159) (q_load rfl rfl rfl rfl rfl) ?_
  refine vP (w11 h159) (q_bslice rfl rfl rfl rfl (by exact rfl) (by decide) (by decide)) ?_
  refine vP (w11 h159) (q_call (set34_fc [[97], [98]]) rfl rfl rfl) ?_
  refine vP (w11 h159) (q_call (fcb (c := true) (rEqual_fc sAB sAB) (by decide)) rfl rfl rfl) ?_
  refine zp (q_pick1 rfl rfl h159 rfl) ?_
  refine zm ?_
  refine zm ?_
  refine zp (q_gread1 3 numP_gc rfl rfl rfl rfl rfl rfl rfl rfl rfl) ?_
  refine zp (q_bin rfl rfl rfl) ?_
  refine zp (q_pick1 rfl rfl rfl rfl) ?_
  refine zm ?_
  refine zm ?_
  refine zp (q_gread1 3 balP5 rfl rfl rfl rfl rfl rfl rfl rfl rfl) ?_
  refine ze ?_
  refine zp (q_bin rfl rfl rfl) ?_
  refine zp (q_pick1 rfl rfl rfl rfl) ?_
  change AOps _ _ _ _ _ _
  refine zS ?_
  refine zQ ?_
  first | rfl | (exfalso; simp_all; done)
 refine vK (w01 h159) ?_
 refine vK (w01 h159) ?_
 refine vK (w01 h159) ?_
 refine vK (w01 h159) ?_
 refine zp (q_pick0 rfl rfl h159 rfl) ?_
 refine zm ?_
 refine zk ?_
 refine zk ?_
 refine zk ?_
 refine zp (q_pick0 rfl rfl rfl rfl) ?_
 refine zm ?_
 refine zk ?_
 refine zk ?_
 refine zk ?_
 refine zk ?_
 refine zp (q_pick0 rfl rfl rfl rfl) ?_
 change AOps _ _ _ _ _ _
 refine zS ?_
 refine zQ ?_
 first | rfl | (exfalso; simp_all; done)
end Go.Proofs.YtnjmbgnaplomaaaGreat

namespace Go.Proofs.YtnjmbgnaplomaaaGreat
open Go.RowKit
theorem recv_ack {l : Lat} {v x : Val} (hc : checkX l = 0) (hv : elemB v l = true) (hx : elemB x l = true) {n : Int} (hn : 1 ≤ n) (h : leqJ l v x = true) : recvA l 3 v ⟨1, 5, 3, n, x⟩ = (x, ⟨2, 3, 5, n, Val.zero⟩, 0) := by
 have hb : badA l 3 ⟨1, 5, 3, n, x⟩ = false := by simp [badA, validV, hc, hx]; omega
 rw [recvA, if_neg (by rw [hb]; decide), if_pos h, join_of_leq (check_ok hc) hv hx ((leqJ_on hc hv hx).symm.trans h)]
theorem recv_nack {l : Lat} {v x : Val} (hc : checkX l = 0) (hx : elemB x l = true) {n : Int} (hn : 1 ≤ n) (h : ¬ leqJ l v x = true) : recvA l 3 v ⟨1, 5, 3, n, x⟩ = (joinV l v x, ⟨3, 3, 5, n, joinV l v x⟩, 0) := by
 have hb : badA l 3 ⟨1, 5, 3, n, x⟩ = false := by simp [badA, validV, hc, hx]; omega
 rw [recvA, if_neg (by rw [hb]; decide), if_neg h]
abbrev accO (l : Lat) (id : Int) (v : Val) : AObj := .var 92 (accC l id v)
theorem ack_gc {l : Lat} {v x : Val} (hc : checkX l = 0) (hv : elemB v l = true) (hx : elemB x l = true) (sv : SmV 900 v) (sx : SmV 40 x) {n : Int} (hn : 1 ≤ n) (h : leqJ l v x = true) :
  GC Tryz.prog 16 [.ptr idB 0, .agg (balC (⟨1, 5, 3, n, x⟩ : Bal))] [(idB, accO l 3 v)] (.tup [.agg (balC (⟨2, 3, 5, n, Val.zero⟩ : Bal)), i64 0]) [(idB, accO l 3 x)] := by
 have g := recvA_gc l 3 v ⟨1, 5, 3, n, x⟩ hc hv sv sx
 rw [recv_ack hc hv hx hn h] at g
 exact g
theorem nack_gc {l : Lat} {v x : Val} (hc : checkX l = 0) (hv : elemB v l = true) (hx : elemB x l = true) (sv : SmV 900 v) (sx : SmV 40 x) {n : Int} (hn : 1 ≤ n) (h : ¬ leqJ l v x = true) :
  GC Tryz.prog 16 [.ptr idB 0, .agg (balC (⟨1, 5, 3, n, x⟩ : Bal))] [(idB, accO l 3 v)] (.tup [.agg (balC (⟨3, 3, 5, n, joinV l v x⟩ : Bal)), i64 0]) [(idB, accO l 3 (joinV l v x))] := by
 have g := recvA_gc l 3 v ⟨1, 5, 3, n, x⟩ hc hv sv sx
 rw [recv_nack hc hx hn h] at g
 exact g
theorem nack_no {l : Lat} {v x : Val} (hc : checkX l = 0) (hv : elemB v l = true) (hx : elemB x l = true) (h : ¬ leqJ l v x = true) : leqJ l (joinV l v x) x = false := by
 have L := join_lub l (check_ok hc) v x hv hx
 cases e : leqJ l (joinV l v x) x with
 | false => rfl
 | true =>
  rw [leqJ_on hc L.el hx] at e
  rw [leqJ_on hc hv hx] at h
  exact absurd (leq_trans l (check_ok hc) _ _ _ hv L.el hx L.le1 e) h
theorem leqJ_self {l : Lat} {x : Val} (hc : checkX l = 0) (hx : elemB x l = true) : leqJ l x x = true := (leqJ_on hc hx hx).trans (leq_refl l (check_ok hc) x hx)
theorem eqV_self (x : Val) : eqV x x = true := (eqV_iff x x).2 rfl
set_option maxRecDepth 100000 in
set_option maxHeartbeats 1000000 in
theorem lawGrows_fc (l : Lat) (vs : List Val) : FC Tryz.prog 5 [.agg (latL l), vals vs] (bl true) := by
 refine fc_of_awp [4] Tryz.func5 rfl rfl 148 Tryz.ntmps5 (Nat.le_of_ble_eq_true rfl) ?_
 intro E hN
 refine a_lm 1 rfl (fun hl1 => ?_)
 refine zG ?_
 refine zX ?_
 refine zT ?_
 refine zH ?_
 refine zM ?_
 refine zE ?_
 refine zB ?_
 refine zM ?_
 refine s_case 15 rfl (fun h5 => ?_) (fun h5 => ?_)
 ·
  refine uK (w10 h5) ?_
  refine uK (w10 h5) ?_
  refine uK (w10 h5) ?_
  refine zP (q_pick1 rfl rfl h5 rfl) ?_
  refine zN ?_
  refine c_true rfl rfl ?_
  refine zG ?_
  refine zP (q_call awake34_fc rfl rfl rfl) ?_
  refine zS ?_
  refine zQ ?_
  rfl
 have hlen : ¬ (vs.length : Int) > 12 := by simpa using h5
 refine uL (w00 h5) ?_
 refine uP (w00 h5) (q_call (r9Check_fc l) rfl rfl rfl) ?_
 refine uP (w00 h5) (q_bin rfl rfl rfl) ?_
 refine zP (q_pick0 rfl rfl h5 rfl) ?_
 refine zN ?_
 refine c_cond rfl (fun h8 => ?_) (fun h8 => ?_)
 ·
  refine zG ?_
  refine zP (q_call awake34_fc rfl rfl rfl) ?_
  refine zS ?_
  refine zQ ?_
  rfl
 have hc : checkX l = 0 := by simpa using h8
 have hbot := bottomC_v hc
 refine zW ?_
 refine zG ?_
 refine zL ?_
 refine s_ncall hN rfl (newA_fn l 3 hc (by decide) (by decide)) (.fn _ _ _ _ rfl rfl) rfl rfl rfl rfl rfl ?_
 refine zM ?_
 refine zP (q_extract rfl rfl rfl) ?_
 refine zP (q_extract rfl rfl rfl) ?_
 refine zS ?_
 refine zT ?_
 refine zH ?_
 refine zM ?_
 refine zB ?_
 refine zN ?_
 refine c_false rfl rfl ?_
 refine zW ?_
 refine zH ?_
 refine zT ?_
 refine awp_block ?_
 refine awp_loop (fun q : {q : Nat × Val // q.1 ≤ vs.length ∧ elemB q.2 l = true ∧ SmV (64 + 40 * q.1) q.2} => ⟨[(1, vals vs), (2, .ptr 0 0), (5, .ptr 1 0), (7, i64 (q.1.1 : Nat))], [(0, .var 26 (latL l)), (1, .var 92 (accC l 3 q.1.2))], 2⟩) (fun q => vs.length - q.1.1) (⟨(0, (bottomC l).1), Nat.zero_le _, by rw [hbot]; exact bot_elem l (check_ok hc), by rw [hbot]; exact sm_bot l (check_ok hc)⟩) ?_ ?_
 ·
  exact weak_scrub' rfl (zz4 trivial) ⟨rfl, rfl, rfl, rfl, rfl, rfl, trivial⟩
 rintro ⟨⟨k, v⟩, hk, hv, sv⟩
 dsimp only at hk hv sv ⊢
 by_cases hq : leqJ l v (vs.getD k Val.zero) = true
 ·
  skip
  refine zH ?_
  refine zM ?_
  refine zM ?_
  refine zE ?_
  refine zB ?_
  refine zN ?_
  refine c_cond rfl (fun h19 => ?_) (fun h19 => ?_)
  ·
   have hlt : k < vs.length := by simpa using h19
   obtain ⟨x, hx⟩ := get_lt hlt
   have hd : vs.getD k Val.zero = x := by simp [List.getD, hx]
   rw [hd] at hq
   refine zW ?_
   refine awp_seq ?_
   refine awp_block ?_
   refine awp_seq ?_
   refine awp_seq ?_
   refine awp_draw 14 (by kernel_rfl) (by kernel_rfl) ?_
   refine zm ?_
   refine zm ?_
   refine zp (q_elem rfl rfl rfl k rfl _ (val_get hx) rfl) ?_
   refine zl ?_
   refine zp (q_call (rSmall_fc x 40 (by decide) (by decide)) rfl rfl rfl) ?_
   refine zp (q_not rfl rfl) ?_
   refine zm ?_
   refine d_case 40 rfl (fun h22 => ?_) (fun h22 => ?_)
   ·
    refine vK (w10 (m0 (n1 h22))) ?_
    refine vK (w10 (m0 (n1 h22))) ?_
    refine vK (w10 (m0 (n1 h22))) ?_
    refine vK (w10 (m0 (n1 h22))) ?_
    refine vK (w10 (m0 (n1 h22))) ?_
    refine vK (w10 (m0 (n1 h22))) ?_
    refine vK (w10 (m0 (n1 h22))) ?_
    change AOps _ _ _ _ _ _
    refine zP (q_pick1 rfl rfl (m0 (n1 h22)) rfl) ?_
    refine zN ?_
    refine c_true rfl rfl ?_
    refine zG ?_
    refine zP (q_call awake34_fc rfl rfl rfl) ?_
    refine zS ?_
    refine zQ ?_
    rfl
   have h90 : smallV x 40 = true := by simpa using h22
   refine vP (w00 (m1 (n0 h22))) (q_load rfl rfl rfl rfl rfl) ?_
   refine vP (w00 (m1 (n0 h22))) (q_move rfl rfl) ?_
   refine vP (w00 (m1 (n0 h22))) (q_move rfl rfl) ?_
   refine vP (w00 (m1 (n0 h22))) (q_elem rfl rfl rfl k rfl _ (val_get hx) rfl) ?_
   refine vP (w00 (m1 (n0 h22))) (q_load rfl rfl rfl rfl rfl) ?_
   refine vP (w00 (m1 (n0 h22))) (q_call (rValidV_fc l x) rfl rfl rfl) ?_
   refine vP (w00 (m1 (n0 h22))) (q_not rfl rfl) ?_
   change AOps _ _ _ _ _ _
   refine zP (q_pick0 rfl rfl (m1 (n0 h22)) rfl) ?_
   refine zN ?_
   refine c_cond rfl (fun h26 => ?_) (fun h26 => ?_)
   ·
    refine zG ?_
    refine zP (q_call awake34_fc rfl rfl rfl) ?_
    refine zS ?_
    refine zQ ?_
    rfl
   have h9 : validV l x = true := by simpa using h26
   have sx := sm_small h90
   have hxe : elemB x l = true := by have := h9; simp [validV] at this; exact this.2
   have L := join_lub l (check_ok hc) v x hv hxe
   have sJ : SmV 1000 (joinV l v x) := (sm_join (by omega) l (check_ok hc) v x hv hxe sv sx).up (by omega)
   refine zW ?_
   refine zG ?_
   refine zM ?_
   refine s_gcall1 hN 1 (valueA_gc l 3 v hc hv (sv.up (show 64 + 40 * k ≤ 1000 by omega))) (.fn _ _ _ _ rfl rfl) rfl rfl rfl rfl rfl rfl rfl rfl rfl rfl rfl ?_
   refine zO ?_
   refine zC ?_
   refine zA ?_
   refine zM ?_
   refine zM ?_
   refine zP (q_addi rfl rfl rfl (by omega)) ?_
   refine zM ?_
   refine zM ?_
   refine zP (q_elem rfl rfl rfl k rfl _ (val_get hx) rfl) ?_
   refine zL ?_
   refine zP (q_build rfl rfl rfl) ?_
   refine s_gcall1 hN 1 (ack_gc hc hv hxe (sv.up (show 64 + 40 * k ≤ 900 by omega)) sx (by omega) hq) (.fn _ _ _ _ rfl rfl) rfl rfl rfl rfl rfl rfl rfl rfl rfl rfl rfl ?_
   refine zM ?_
   refine zP (q_extract rfl rfl rfl) ?_
   refine zP (q_extract rfl rfl rfl) ?_
   refine zO ?_
   refine zC ?_
   refine zS ?_
   refine zA ?_
   refine zM ?_
   refine s_gcall1 hN 1 (valueA_gc l 3 x hc hxe (sx.up (by decide))) (.fn _ _ _ _ rfl rfl) rfl rfl rfl rfl rfl rfl rfl rfl rfl rfl rfl ?_
   refine zO ?_
   refine zC ?_
   refine zN ?_
   refine awp_seq ?_
   refine awp_seq ?_
   refine awp_draw 35 (by kernel_rfl) (by kernel_rfl) ?_
   refine zm ?_
   refine zp (q_bin rfl rfl rfl) ?_
   refine zm ?_
   refine zl ?_
   refine zl ?_
   refine zl ?_
   refine zp (q_call (fcb (rLeqJ_fc l v x (sv.up (show 64 + 40 * k ≤ 1000000 by omega))) hq) rfl rfl rfl) ?_
   refine zp (q_not rfl rfl) ?_
   refine zp (q_pick0 rfl rfl rfl rfl) ?_
   refine zm ?_
   refine zl ?_
   refine zm ?_
   refine zm ?_
   refine zp (q_elem rfl rfl rfl k rfl _ (val_get hx) rfl) ?_
   refine zl ?_
   refine zl ?_
   refine zp (q_call (fcb (rLeqJ_fc l x x (sx.up (by decide))) (leqJ_self hc hxe)) rfl rfl rfl) ?_
   refine zp (q_not rfl rfl) ?_
   refine zp (q_pick0 rfl rfl rfl rfl) ?_
   refine zm ?_
   refine zf ?_
   refine zl ?_
   refine zm ?_
   refine zp (q_addi rfl rfl rfl (by omega)) ?_
   refine zp (q_binb (b := false) rfl rfl rfl (by simp)) ?_
   refine zp (q_pick0 rfl rfl rfl rfl) ?_
   refine zm ?_
   refine zf ?_
   refine zl ?_
   refine zp (q_bin rfl rfl rfl) ?_
   refine zp (q_pick0 rfl rfl rfl rfl) ?_
   refine zm ?_
   refine zf ?_
   refine zl ?_
   refine zp (q_bin rfl rfl rfl) ?_
   change AOps _ _ _ _ _ _
   refine zP (q_pick0 rfl rfl rfl rfl) ?_
   refine zN ?_
   refine c_false rfl rfl ?_
   refine zW ?_
   refine awp_seq ?_
   refine awp_seq ?_
   refine awp_draw 17 (by kernel_rfl) (by kernel_rfl) ?_
   refine zf ?_
   refine zl ?_
   refine zp (q_bin rfl rfl rfl) ?_
   refine zm ?_
   refine zl ?_
   refine zm ?_
   refine zm ?_
   refine zp (q_elem rfl rfl rfl k rfl _ (val_get hx) rfl) ?_
   refine zl ?_
   refine zp (q_call (fcb (c := true) (rEqual_fc x x) (eqV_self _)) rfl rfl rfl) ?_
   refine zm ?_
   refine zf ?_
   refine zl ?_
   refine zp (q_build rfl rfl rfl) ?_
   refine zp (q_call (fcb (c := true) (rEqual_fc Val.zero Val.zero) (eqV_self _)) rfl rfl rfl) ?_
   refine zp (q_pick1 rfl rfl rfl rfl) ?_
   refine zp (q_not rfl rfl) ?_
   change AOps _ _ _ _ _ _
   refine zP (q_pick1 rfl rfl rfl rfl) ?_
   refine zN ?_
   refine c_false rfl rfl ?_
   refine zW ?_
   refine awp_seq ?_
   refine awp_seq ?_
   refine awp_draw 18 (by kernel_rfl) (by kernel_rfl) ?_
   refine zf ?_
   refine zl ?_
   refine zp (q_bin rfl rfl rfl) ?_
   refine zm ?_
   refine zk ?_
   refine zk ?_
   refine zk ?_
   refine zk ?_
   refine zk ?_
   refine zk ?_
   refine zk ?_
   refine zk ?_
   refine zk ?_
   refine zk ?_
   refine zk ?_
   refine zk ?_
   refine zk ?_
   refine zk ?_
   change AOps _ _ _ _ _ _
   refine zP (q_pick0 rfl rfl rfl rfl) ?_
   refine zN ?_
   refine c_false rfl rfl ?_
   refine zW ?_
   refine zG ?_
   refine zF ?_
   refine zL ?_
   refine zB ?_
   refine zM ?_
   refine zK ?_
   refine zK ?_
   refine zK ?_
   refine zP (q_pick0 rfl rfl rfl rfl) ?_
   refine zN ?_
   refine c_false rfl rfl ?_
   refine awp_skip ?_
   change AWP _ _ _ _  _
   refine awp_region ?_
   refine zM ?_
   refine zP (q_addi rfl rfl rfl (by omega)) ?_
   refine zS ?_
   refine aops_nil ?_
   exact ⟨⟨(k + 1, x), hlt, hxe, sx.up (by omega)⟩, weak_scrub' rfl (zz3 ⟨(cgI (by dsimp only; omega)), rfl, trivial⟩) ⟨rfl, rfl, rfl, rfl, rfl, rfl, trivial⟩, by dsimp only; omega⟩
  have hge : vs.length ≤ k := by simpa using h19
  refine awp_exit ?_
  change AWP _ _ _ _  _
  refine zG ?_
  refine zP (q_call awake34_fc rfl rfl rfl) ?_
  refine zS ?_
  refine zQ ?_
  rfl
 skip
 refine zH ?_
 refine zM ?_
 refine zM ?_
 refine zE ?_
 refine zB ?_
 refine zN ?_
 refine c_cond rfl (fun h76 => ?_) (fun h76 => ?_)
 ·
  have hlt : k < vs.length := by simpa using h76
  obtain ⟨x, hx⟩ := get_lt hlt
  have hd : vs.getD k Val.zero = x := by simp [List.getD, hx]
  rw [hd] at hq
  refine zW ?_
  refine awp_seq ?_
  refine awp_block ?_
  refine awp_seq ?_
  refine awp_seq ?_
  refine awp_draw 14 (by kernel_rfl) (by kernel_rfl) ?_
  refine zm ?_
  refine zm ?_
  refine zp (q_elem rfl rfl rfl k rfl _ (val_get hx) rfl) ?_
  refine zl ?_
  refine zp (q_call (rSmall_fc x 40 (by decide) (by decide)) rfl rfl rfl) ?_
  refine zp (q_not rfl rfl) ?_
  refine zm ?_
  refine d_case 40 rfl (fun h79 => ?_) (fun h79 => ?_)
  ·
   refine vK (w10 (m0 (n1 h79))) ?_
   refine vK (w10 (m0 (n1 h79))) ?_
   refine vK (w10 (m0 (n1 h79))) ?_
   refine vK (w10 (m0 (n1 h79))) ?_
   refine vK (w10 (m0 (n1 h79))) ?_
   refine vK (w10 (m0 (n1 h79))) ?_
   refine vK (w10 (m0 (n1 h79))) ?_
   change AOps _ _ _ _ _ _
   refine zP (q_pick1 rfl rfl (m0 (n1 h79)) rfl) ?_
   refine zN ?_
   refine c_true rfl rfl ?_
   refine zG ?_
   refine zP (q_call awake34_fc rfl rfl rfl) ?_
   refine zS ?_
   refine zQ ?_
   rfl
  have h90 : smallV x 40 = true := by simpa using h79
  refine vP (w00 (m1 (n0 h79))) (q_load rfl rfl rfl rfl rfl) ?_
  refine vP (w00 (m1 (n0 h79))) (q_move rfl rfl) ?_
  refine vP (w00 (m1 (n0 h79))) (q_move rfl rfl) ?_
  refine vP (w00 (m1 (n0 h79))) (q_elem rfl rfl rfl k rfl _ (val_get hx) rfl) ?_
  refine vP (w00 (m1 (n0 h79))) (q_load rfl rfl rfl rfl rfl) ?_
  refine vP (w00 (m1 (n0 h79))) (q_call (rValidV_fc l x) rfl rfl rfl) ?_
  refine vP (w00 (m1 (n0 h79))) (q_not rfl rfl) ?_
  change AOps _ _ _ _ _ _
  refine zP (q_pick0 rfl rfl (m1 (n0 h79)) rfl) ?_
  refine zN ?_
  refine c_cond rfl (fun h83 => ?_) (fun h83 => ?_)
  ·
   refine zG ?_
   refine zP (q_call awake34_fc rfl rfl rfl) ?_
   refine zS ?_
   refine zQ ?_
   rfl
  have h9 : validV l x = true := by simpa using h83
  have sx := sm_small h90
  have hxe : elemB x l = true := by have := h9; simp [validV] at this; exact this.2
  have L := join_lub l (check_ok hc) v x hv hxe
  have sJ : SmV 1000 (joinV l v x) := (sm_join (by omega) l (check_ok hc) v x hv hxe sv sx).up (by omega)
  refine zW ?_
  refine zG ?_
  refine zM ?_
  refine s_gcall1 hN 1 (valueA_gc l 3 v hc hv (sv.up (show 64 + 40 * k ≤ 1000 by omega))) (.fn _ _ _ _ rfl rfl) rfl rfl rfl rfl rfl rfl rfl rfl rfl rfl rfl ?_
  refine zO ?_
  refine zC ?_
  refine zA ?_
  refine zM ?_
  refine zM ?_
  refine zP (q_addi rfl rfl rfl (by omega)) ?_
  refine zM ?_
  refine zM ?_
  refine zP (q_elem rfl rfl rfl k rfl _ (val_get hx) rfl) ?_
  refine zL ?_
  refine zP (q_build rfl rfl rfl) ?_
  refine s_gcall1 hN 1 (nack_gc hc hv hxe (sv.up (show 64 + 40 * k ≤ 900 by omega)) sx (by omega) hq) (.fn _ _ _ _ rfl rfl) rfl rfl rfl rfl rfl rfl rfl rfl rfl rfl rfl ?_
  refine zM ?_
  refine zP (q_extract rfl rfl rfl) ?_
  refine zP (q_extract rfl rfl rfl) ?_
  refine zO ?_
  refine zC ?_
  refine zS ?_
  refine zA ?_
  refine zM ?_
  refine s_gcall1 hN 1 (valueA_gc l 3 (joinV l v x) hc L.el sJ) (.fn _ _ _ _ rfl rfl) rfl rfl rfl rfl rfl rfl rfl rfl rfl rfl rfl ?_
  refine zO ?_
  refine zC ?_
  refine zN ?_
  refine awp_seq ?_
  refine awp_seq ?_
  refine awp_draw 35 (by kernel_rfl) (by kernel_rfl) ?_
  refine zm ?_
  refine zp (q_bin rfl rfl rfl) ?_
  refine zm ?_
  refine zl ?_
  refine zl ?_
  refine zl ?_
  refine zp (q_call (fcb (rLeqJ_fc l v (joinV l v x) (sv.up (show 64 + 40 * k ≤ 1000000 by omega))) ((leqJ_on hc hv L.el).trans L.le1)) rfl rfl rfl) ?_
  refine zp (q_not rfl rfl) ?_
  refine zp (q_pick0 rfl rfl rfl rfl) ?_
  refine zm ?_
  refine zl ?_
  refine zm ?_
  refine zm ?_
  refine zp (q_elem rfl rfl rfl k rfl _ (val_get hx) rfl) ?_
  refine zl ?_
  refine zl ?_
  refine zp (q_call (fcb (rLeqJ_fc l x (joinV l v x) (sx.up (by decide))) ((leqJ_on hc hxe L.el).trans L.le2)) rfl rfl rfl) ?_
  refine zp (q_not rfl rfl) ?_
  refine zp (q_pick0 rfl rfl rfl rfl) ?_
  refine zm ?_
  refine zf ?_
  refine zl ?_
  refine zm ?_
  refine zp (q_addi rfl rfl rfl (by omega)) ?_
  refine zp (q_binb (b := false) rfl rfl rfl (by simp)) ?_
  refine zp (q_pick0 rfl rfl rfl rfl) ?_
  refine zm ?_
  refine zf ?_
  refine zl ?_
  refine zp (q_bin rfl rfl rfl) ?_
  refine zp (q_pick0 rfl rfl rfl rfl) ?_
  refine zm ?_
  refine zf ?_
  refine zl ?_
  refine zp (q_bin rfl rfl rfl) ?_
  change AOps _ _ _ _ _ _
  refine zP (q_pick0 rfl rfl rfl rfl) ?_
  refine zN ?_
  refine c_false rfl rfl ?_
  refine zW ?_
  refine awp_seq ?_
  refine awp_seq ?_
  refine awp_draw 17 (by kernel_rfl) (by kernel_rfl) ?_
  refine zf ?_
  refine zl ?_
  refine zp (q_bin rfl rfl rfl) ?_
  refine zm ?_
  refine zk ?_
  refine zk ?_
  refine zk ?_
  refine zk ?_
  refine zk ?_
  refine zk ?_
  refine zk ?_
  refine zk ?_
  refine zk ?_
  refine zk ?_
  refine zk ?_
  refine zk ?_
  refine zk ?_
  change AOps _ _ _ _ _ _
  refine zP (q_pick0 rfl rfl rfl rfl) ?_
  refine zN ?_
  refine c_false rfl rfl ?_
  refine zW ?_
  refine awp_seq ?_
  refine awp_seq ?_
  refine awp_draw 18 (by kernel_rfl) (by kernel_rfl) ?_
  refine zf ?_
  refine zl ?_
  refine zp (q_bin rfl rfl rfl) ?_
  refine zm ?_
  refine zf ?_
  refine zl ?_
  refine zl ?_
  refine zp (q_call (fcb (c := true) (rEqual_fc (joinV l v x) (joinV l v x)) (eqV_self _)) rfl rfl rfl) ?_
  refine zp (q_not rfl rfl) ?_
  refine zm ?_
  refine zl ?_
  refine zl ?_
  refine zm ?_
  refine zm ?_
  refine zp (q_elem rfl rfl rfl k rfl _ (val_get hx) rfl) ?_
  refine zl ?_
  refine zp (q_call (fcb (rLeqJ_fc l (joinV l v x) x (sJ.up (by decide))) (nack_no hc hv hxe hq)) rfl rfl rfl) ?_
  refine zp (q_pick0 rfl rfl rfl rfl) ?_
  change AOps _ _ _ _ _ _
  refine zP (q_pick1 rfl rfl rfl rfl) ?_
  refine zN ?_
  refine c_false rfl rfl ?_
  refine zW ?_
  refine zG ?_
  refine zF ?_
  refine zL ?_
  refine zB ?_
  refine zM ?_
  refine zF ?_
  refine zL ?_
  refine zB ?_
  refine zP (q_pick1 rfl rfl rfl rfl) ?_
  refine zN ?_
  refine c_false rfl rfl ?_
  refine awp_skip ?_
  change AWP _ _ _ _  _
  refine awp_region ?_
  refine zM ?_
  refine zP (q_addi rfl rfl rfl (by omega)) ?_
  refine zS ?_
  refine aops_nil ?_
  exact ⟨⟨(k + 1, joinV l v x), hlt, L.el, (sm_join (by omega) l (check_ok hc) v x hv hxe sv sx).up (by omega)⟩, weak_scrub' rfl (zz3 ⟨(cgI (by dsimp only; omega)), rfl, trivial⟩) ⟨rfl, rfl, rfl, rfl, rfl, rfl, trivial⟩, by dsimp only; omega⟩
 have hge : vs.length ≤ k := by simpa using h76
 refine awp_exit ?_
 change AWP _ _ _ _  _
 refine zG ?_
 refine zP (q_call awake34_fc rfl rfl rfl) ?_
 refine zS ?_
 refine zQ ?_
 rfl
end Go.Proofs.YtnjmbgnaplomaaaGreat
