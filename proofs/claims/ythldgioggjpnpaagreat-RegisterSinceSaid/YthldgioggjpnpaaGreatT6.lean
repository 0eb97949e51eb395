/-
  The law RegisterSince.
  The law RegisterSince at all inputs.
-/
import Derived.Test.YthldgioggjpnpaaGreatT3
import Derived.Test.YthldgioggjpnpaaGreatT4
import Derived.Test.YthldgioggjpnpaaGreatT5
import Derived.Test.YthldgioggjpnpaaGreatB16
import Derived.Test.YthldgioggjpnpaaGreatB18
namespace Go.Proofs.YthldgioggjpnpaaGreat
open Go.RowKit
theorem joinReg_fc (a b : List En) (ha : RegOk a) (hb : RegOk b) (la : a.length ≤ 12) (lb : b.length ≤ 12) : FC Tryz.prog 27 [.agg (latL regL), .agg (valL (regV a)), .agg (valL (regV b))] (.tup [.agg (valL (regV (mergedE a b))), i64 0]) := by
 have ea := reg_el ha
 have eb := reg_el hb
 have sa := reg_sm ha la
 have sb := reg_sm hb lb
 have h := Join_fc regL (regV a) (regV b) (fun _ => fold_ok regO (by simp [ea, eb, sa, sb]) (by simp))
 rw [joinAllV_of (checkJ_of regC (by simp [ea, eb])) (fold_two regO ea), reg_join] at h
 exact h
theorem fz_ens (l : List En) : ∀ e ∈ l.map enC, fzs e = some e := fun e he => by obtain ⟨y, -, rfl⟩ := List.mem_map.1 he; exact fzs_en y
theorem cgLess {tt : TypeId} {a b c : AV} {l : List En} {k : Nat} : some (AObj.var tt [a, b, c, .sl ([] ++ (l.take k).map enC ++ (l.drop (k + 1)).map enC) none]) = some (AObj.var tt [a, b, c, ens (lessE l k)]) := by
 show _ = some (AObj.var tt [a, b, c, .sl ((l.take k ++ l.drop (k + 1)).map enC) none])
 rw [List.nil_append, List.map_append]
set_option maxRecDepth 100000 in
set_option maxHeartbeats 1000000 in
theorem lawSince_ok (hA : ∀ w, Calls Tryz.prog 10 #[] w fun e w' => e = .returned (.bool true) ∧ Below w.heap.size w w') (vs os : List En) (hv : RegOk vs) (ho : RegOk os) (lv : vs.length ≤ 12) (lo : os.length ≤ 12) (cv : smallR (regV vs) = true) (co : smallR (regV os) = true) : FB Tryz.prog 9 [.agg (valL (regV vs)), .agg (valL (regV os))] := by
 refine fb_of_awp [4] Tryz.func9 rfl rfl 97 Tryz.ntmps9 (Nat.le_of_ble_eq_true rfl) ?_
 intro E hN
 intro hz
 have hs := since_ok (o := os) hv
 have ls : (sinceE vs os).length ≤ 12 := Nat.le_trans (since_len vs os) lv
 have hmj := merged_ok ho hv
 refine zG ?_; refine zX ?_; refine zX ?_; refine zT ?_; refine zH ?_; refine s_bcall hN hz hA rfl rfl rfl rfl rfl ?_; refine zP (q_not rfl rfl) ?_
 refine zN ?_; refine c_false rfl rfl ?_; refine zW ?_; refine zH ?_; refine zL ?_
 refine zP (q_call (fcb (c := true) (smallR_fc (regV vs)) cv) rfl rfl rfl) ?_; refine zP (q_not rfl rfl) ?_; refine zM ?_; refine zL ?_
 refine zP (q_call (fcb (c := true) (smallR_fc (regV os)) co) rfl rfl rfl) ?_; refine zP (q_not rfl rfl) ?_; refine zh0 rfl ?_; refine zN ?_
 refine c_false rfl rfl ?_; refine zW ?_; refine zG ?_; refine zL ?_; refine zL ?_
 refine zP (q_call (rsince_fc (regV vs) (regV os) (show vs.length ≤ 1000000 by omega) (fun e he => by have := reg_clk hv e he; omega)) rfl rfl rfl) ?_
 refine zO ?_; refine zC ?_; refine zN ?_
 refine c_cut (⟨[(2, .ptr 0 0), (3, .ptr 1 0), (5, .ptr 2 0), (6, .ptr 3 0), (7, i64 0)], [(0, .var 26 (valL (regV vs))), (1, .var 26 (valL (regV os))), (2, .var 26 (valL (regV (sinceE vs os)))), (3, .var 26 (valL (regV (mergedE os vs))))], 4⟩) ?_ ?_
 ·
  refine awp_takeN 10 rfl (by kernel_rfl) (by kernel_rfl) (fun _ _ h => h) ?_
  refine au_all [0, 1, 2, 7] (by kernel_rfl) rfl ⟨.inl (ao_py rfl ?_), .inl (ao_py rfl ?_), .inl (ao_py rfl ?_), .inr (.inr (nw_alloc hN rfl rfl rfl rfl rfl rfl rfl ?_)), trivial⟩
  ·
   refine zp (q_call rkind_fc rfl rfl rfl) ?_
   change AU _ _ _ _ _ _ _ _
   refine au_all [1, 2, 7] (by kernel_rfl) rfl ⟨.inl (ao_py rfl ?_), .inl (ao_py rfl ?_), .inr (.inr (nw_alloc hN rfl rfl rfl rfl rfl rfl rfl ?_)), trivial⟩
   ·
    refine zl ?_
    change AU _ _ _ _ _ _ _ _
    refine au_all [2, 7] (by kernel_rfl) rfl ⟨.inl (ao_py rfl ?_), .inr (.inr (nw_alloc hN rfl rfl rfl rfl rfl rfl rfl ?_)), trivial⟩
    ·
     refine zl ?_
     change AU _ _ _ _ _ _ _ _
     refine au_all [3, 7] (by kernel_rfl) rfl ⟨.inl (ao_py rfl ?_), .inr (.inr (nw_alloc hN rfl rfl rfl rfl rfl rfl rfl ?_)), trivial⟩
     ·
      refine zp (q_call (joinReg_fc os vs ho hv lo lv) rfl rfl rfl) ?_
      change AU _ _ _ _ _ _ _ _
      refine yM 4 ?_; refine yX 5 ?_; refine yX 6 ?_
      refine au_all [7] (by kernel_rfl) rfl ⟨.inr (.inr (nw_alloc hN rfl rfl rfl rfl rfl rfl rfl ?_)), trivial⟩
      change AU _ _ _ _ _ _ _ _
      refine yS 8 ?_; refine yA 9 ?_; refine yD ?_
      exact weak_scrub' rfl (zz4 (zz1 trivial)) ⟨rfl, rfl, rfl, rfl, rfl, rfl, rfl, rfl, rfl, rfl, rfl, rfl, trivial⟩
     change AU _ _ _ _ _ _ _ _
     refine yP 3 rfl (q_call (joinReg_fc os vs ho hv lo lv) rfl rfl rfl) ?_; refine yM 4 ?_; refine yX 5 ?_; refine yX 6 ?_; refine yS 8 ?_
     refine yA 9 ?_; refine yD ?_
     exact weak_scrub' rfl (zz4 (zz1 trivial)) ⟨rfl, rfl, rfl, rfl, rfl, rfl, rfl, rfl, rfl, rfl, rfl, rfl, trivial⟩
    change AU _ _ _ _ _ _ _ _
    refine yL 2 ?_; refine yP 3 rfl (q_call (joinReg_fc os vs ho hv lo lv) rfl rfl rfl) ?_; refine yM 4 ?_; refine yX 5 ?_; refine yX 6 ?_
    refine yS 8 ?_; refine yA 9 ?_; refine yD ?_
    exact weak_scrub' rfl (zz4 (zz1 trivial)) ⟨rfl, rfl, rfl, rfl, rfl, rfl, rfl, rfl, rfl, rfl, rfl, rfl, trivial⟩
   ·
    refine zl ?_
    change AU _ _ _ _ _ _ _ _
    refine au_all [1, 7] (by kernel_rfl) rfl ⟨.inl (ao_py rfl ?_), .inr (.inr (nw_alloc hN rfl rfl rfl rfl rfl rfl rfl ?_)), trivial⟩
    ·
     refine zl ?_
     change AU _ _ _ _ _ _ _ _
     refine au_all [3, 7] (by kernel_rfl) rfl ⟨.inl (ao_py rfl ?_), .inr (.inr (nw_alloc hN rfl rfl rfl rfl rfl rfl rfl ?_)), trivial⟩
     ·
      refine zp (q_call (joinReg_fc os vs ho hv lo lv) rfl rfl rfl) ?_
      change AU _ _ _ _ _ _ _ _
      refine yM 4 ?_; refine yX 5 ?_; refine yX 6 ?_
      refine au_all [7] (by kernel_rfl) rfl ⟨.inr (.inr (nw_alloc hN rfl rfl rfl rfl rfl rfl rfl ?_)), trivial⟩
      change AU _ _ _ _ _ _ _ _
      refine yS 8 ?_; refine yA 9 ?_; refine yD ?_
      exact weak_scrub' rfl (zz4 (zz1 trivial)) ⟨rfl, rfl, rfl, rfl, rfl, rfl, rfl, rfl, rfl, rfl, rfl, rfl, trivial⟩
     change AU _ _ _ _ _ _ _ _
     refine yP 3 rfl (q_call (joinReg_fc os vs ho hv lo lv) rfl rfl rfl) ?_; refine yM 4 ?_; refine yX 5 ?_; refine yX 6 ?_; refine yS 8 ?_
     refine yA 9 ?_; refine yD ?_
     exact weak_scrub' rfl (zz4 (zz1 trivial)) ⟨rfl, rfl, rfl, rfl, rfl, rfl, rfl, rfl, rfl, rfl, rfl, rfl, trivial⟩
    change AU _ _ _ _ _ _ _ _
    refine yL 1 ?_; refine yP 3 rfl (q_call (joinReg_fc os vs ho hv lo lv) rfl rfl rfl) ?_; refine yM 4 ?_; refine yX 5 ?_; refine yX 6 ?_
    refine yS 8 ?_; refine yA 9 ?_; refine yD ?_
    exact weak_scrub' rfl (zz4 (zz1 trivial)) ⟨rfl, rfl, rfl, rfl, rfl, rfl, rfl, rfl, rfl, rfl, rfl, rfl, trivial⟩
   change AU _ _ _ _ _ _ _ _
   refine au_all [1, 2] (by kernel_rfl) rfl ⟨.inl (ao_py rfl ?_), .inl (ao_py rfl ?_), trivial⟩
   ·
    refine zl ?_
    change AU _ _ _ _ _ _ _ _
    refine yL 2 ?_; refine yP 3 rfl (q_call (joinReg_fc os vs ho hv lo lv) rfl rfl rfl) ?_; refine yM 4 ?_; refine yX 5 ?_; refine yX 6 ?_
    refine yS 8 ?_; refine yA 9 ?_; refine yD ?_
    exact weak_scrub' rfl (zz4 (zz1 trivial)) ⟨rfl, rfl, rfl, rfl, rfl, rfl, rfl, rfl, rfl, rfl, rfl, rfl, trivial⟩
   refine zl ?_
   change AU _ _ _ _ _ _ _ _
   refine yL 1 ?_; refine yP 3 rfl (q_call (joinReg_fc os vs ho hv lo lv) rfl rfl rfl) ?_; refine yM 4 ?_; refine yX 5 ?_; refine yX 6 ?_
   refine yS 8 ?_; refine yA 9 ?_; refine yD ?_
   exact weak_scrub' rfl (zz4 (zz1 trivial)) ⟨rfl, rfl, rfl, rfl, rfl, rfl, rfl, rfl, rfl, rfl, rfl, rfl, trivial⟩
  ·
   refine zl ?_
   change AU _ _ _ _ _ _ _ _
   refine au_all [0, 2, 7] (by kernel_rfl) rfl ⟨.inl (ao_py rfl ?_), .inl (ao_py rfl ?_), .inr (.inr (nw_alloc hN rfl rfl rfl rfl rfl rfl rfl ?_)), trivial⟩
   ·
    refine zp (q_call rkind_fc rfl rfl rfl) ?_
    change AU _ _ _ _ _ _ _ _
    refine au_all [2, 7] (by kernel_rfl) rfl ⟨.inl (ao_py rfl ?_), .inr (.inr (nw_alloc hN rfl rfl rfl rfl rfl rfl rfl ?_)), trivial⟩
    ·
     refine zl ?_
     change AU _ _ _ _ _ _ _ _
     refine au_all [3, 7] (by kernel_rfl) rfl ⟨.inl (ao_py rfl ?_), .inr (.inr (nw_alloc hN rfl rfl rfl rfl rfl rfl rfl ?_)), trivial⟩
     ·
      refine zp (q_call (joinReg_fc os vs ho hv lo lv) rfl rfl rfl) ?_
      change AU _ _ _ _ _ _ _ _
      refine yM 4 ?_; refine yX 5 ?_; refine yX 6 ?_
      refine au_all [7] (by kernel_rfl) rfl ⟨.inr (.inr (nw_alloc hN rfl rfl rfl rfl rfl rfl rfl ?_)), trivial⟩
      change AU _ _ _ _ _ _ _ _
      refine yS 8 ?_; refine yA 9 ?_; refine yD ?_
      exact weak_scrub' rfl (zz4 (zz1 trivial)) ⟨rfl, rfl, rfl, rfl, rfl, rfl, rfl, rfl, rfl, rfl, rfl, rfl, trivial⟩
     change AU _ _ _ _ _ _ _ _
     refine yP 3 rfl (q_call (joinReg_fc os vs ho hv lo lv) rfl rfl rfl) ?_; refine yM 4 ?_; refine yX 5 ?_; refine yX 6 ?_; refine yS 8 ?_
     refine yA 9 ?_; refine yD ?_
     exact weak_scrub' rfl (zz4 (zz1 trivial)) ⟨rfl, rfl, rfl, rfl, rfl, rfl, rfl, rfl, rfl, rfl, rfl, rfl, trivial⟩
    change AU _ _ _ _ _ _ _ _
    refine yL 2 ?_; refine yP 3 rfl (q_call (joinReg_fc os vs ho hv lo lv) rfl rfl rfl) ?_; refine yM 4 ?_; refine yX 5 ?_; refine yX 6 ?_
    refine yS 8 ?_; refine yA 9 ?_; refine yD ?_
    exact weak_scrub' rfl (zz4 (zz1 trivial)) ⟨rfl, rfl, rfl, rfl, rfl, rfl, rfl, rfl, rfl, rfl, rfl, rfl, trivial⟩
   ·
    refine zl ?_
    change AU _ _ _ _ _ _ _ _
    refine au_all [0, 7] (by kernel_rfl) rfl ⟨.inl (ao_py rfl ?_), .inr (.inr (nw_alloc hN rfl rfl rfl rfl rfl rfl rfl ?_)), trivial⟩
    ·
     refine zp (q_call rkind_fc rfl rfl rfl) ?_
     change AU _ _ _ _ _ _ _ _
     refine au_all [3, 7] (by kernel_rfl) rfl ⟨.inl (ao_py rfl ?_), .inr (.inr (nw_alloc hN rfl rfl rfl rfl rfl rfl rfl ?_)), trivial⟩
     ·
      refine zp (q_call (joinReg_fc os vs ho hv lo lv) rfl rfl rfl) ?_
      change AU _ _ _ _ _ _ _ _
      refine yM 4 ?_; refine yX 5 ?_; refine yX 6 ?_
      refine au_all [7] (by kernel_rfl) rfl ⟨.inr (.inr (nw_alloc hN rfl rfl rfl rfl rfl rfl rfl ?_)), trivial⟩
      change AU _ _ _ _ _ _ _ _
      refine yS 8 ?_; refine yA 9 ?_; refine yD ?_
      exact weak_scrub' rfl (zz4 (zz1 trivial)) ⟨rfl, rfl, rfl, rfl, rfl, rfl, rfl, rfl, rfl, rfl, rfl, rfl, trivial⟩
     change AU _ _ _ _ _ _ _ _
     refine yP 3 rfl (q_call (joinReg_fc os vs ho hv lo lv) rfl rfl rfl) ?_; refine yM 4 ?_; refine yX 5 ?_; refine yX 6 ?_; refine yS 8 ?_
     refine yA 9 ?_; refine yD ?_
     exact weak_scrub' rfl (zz4 (zz1 trivial)) ⟨rfl, rfl, rfl, rfl, rfl, rfl, rfl, rfl, rfl, rfl, rfl, rfl, trivial⟩
    change AU _ _ _ _ _ _ _ _
    refine yP 0 rfl (q_call rkind_fc rfl rfl rfl) ?_; refine yP 3 rfl (q_call (joinReg_fc os vs ho hv lo lv) rfl rfl rfl) ?_; refine yM 4 ?_
    refine yX 5 ?_; refine yX 6 ?_; refine yS 8 ?_; refine yA 9 ?_; refine yD ?_
    exact weak_scrub' rfl (zz4 (zz1 trivial)) ⟨rfl, rfl, rfl, rfl, rfl, rfl, rfl, rfl, rfl, rfl, rfl, rfl, trivial⟩
   change AU _ _ _ _ _ _ _ _
   refine au_all [0, 2] (by kernel_rfl) rfl ⟨.inl (ao_py rfl ?_), .inl (ao_py rfl ?_), trivial⟩
   ·
    refine zp (q_call rkind_fc rfl rfl rfl) ?_
    change AU _ _ _ _ _ _ _ _
    refine yL 2 ?_; refine yP 3 rfl (q_call (joinReg_fc os vs ho hv lo lv) rfl rfl rfl) ?_; refine yM 4 ?_; refine yX 5 ?_; refine yX 6 ?_
    refine yS 8 ?_; refine yA 9 ?_; refine yD ?_
    exact weak_scrub' rfl (zz4 (zz1 trivial)) ⟨rfl, rfl, rfl, rfl, rfl, rfl, rfl, rfl, rfl, rfl, rfl, rfl, trivial⟩
   refine zl ?_
   change AU _ _ _ _ _ _ _ _
   refine yP 0 rfl (q_call rkind_fc rfl rfl rfl) ?_; refine yP 3 rfl (q_call (joinReg_fc os vs ho hv lo lv) rfl rfl rfl) ?_; refine yM 4 ?_
   refine yX 5 ?_; refine yX 6 ?_; refine yS 8 ?_; refine yA 9 ?_; refine yD ?_
   exact weak_scrub' rfl (zz4 (zz1 trivial)) ⟨rfl, rfl, rfl, rfl, rfl, rfl, rfl, rfl, rfl, rfl, rfl, rfl, trivial⟩
  ·
   refine zl ?_
   change AU _ _ _ _ _ _ _ _
   refine au_all [0, 1, 7] (by kernel_rfl) rfl ⟨.inl (ao_py rfl ?_), .inl (ao_py rfl ?_), .inr (.inr (nw_alloc hN rfl rfl rfl rfl rfl rfl rfl ?_)), trivial⟩
   ·
    refine zp (q_call rkind_fc rfl rfl rfl) ?_
    change AU _ _ _ _ _ _ _ _
    refine au_all [1, 7] (by kernel_rfl) rfl ⟨.inl (ao_py rfl ?_), .inr (.inr (nw_alloc hN rfl rfl rfl rfl rfl rfl rfl ?_)), trivial⟩
    ·
     refine zl ?_
     change AU _ _ _ _ _ _ _ _
     refine au_all [3, 7] (by kernel_rfl) rfl ⟨.inl (ao_py rfl ?_), .inr (.inr (nw_alloc hN rfl rfl rfl rfl rfl rfl rfl ?_)), trivial⟩
     ·
      refine zp (q_call (joinReg_fc os vs ho hv lo lv) rfl rfl rfl) ?_
      change AU _ _ _ _ _ _ _ _
      refine yM 4 ?_; refine yX 5 ?_; refine yX 6 ?_
      refine au_all [7] (by kernel_rfl) rfl ⟨.inr (.inr (nw_alloc hN rfl rfl rfl rfl rfl rfl rfl ?_)), trivial⟩
      change AU _ _ _ _ _ _ _ _
      refine yS 8 ?_; refine yA 9 ?_; refine yD ?_
      exact weak_scrub' rfl (zz4 (zz1 trivial)) ⟨rfl, rfl, rfl, rfl, rfl, rfl, rfl, rfl, rfl, rfl, rfl, rfl, trivial⟩
     change AU _ _ _ _ _ _ _ _
     refine yP 3 rfl (q_call (joinReg_fc os vs ho hv lo lv) rfl rfl rfl) ?_; refine yM 4 ?_; refine yX 5 ?_; refine yX 6 ?_; refine yS 8 ?_
     refine yA 9 ?_; refine yD ?_
     exact weak_scrub' rfl (zz4 (zz1 trivial)) ⟨rfl, rfl, rfl, rfl, rfl, rfl, rfl, rfl, rfl, rfl, rfl, rfl, trivial⟩
    change AU _ _ _ _ _ _ _ _
    refine yL 1 ?_; refine yP 3 rfl (q_call (joinReg_fc os vs ho hv lo lv) rfl rfl rfl) ?_; refine yM 4 ?_; refine yX 5 ?_; refine yX 6 ?_
    refine yS 8 ?_; refine yA 9 ?_; refine yD ?_
    exact weak_scrub' rfl (zz4 (zz1 trivial)) ⟨rfl, rfl, rfl, rfl, rfl, rfl, rfl, rfl, rfl, rfl, rfl, rfl, trivial⟩
   ·
    refine zl ?_
    change AU _ _ _ _ _ _ _ _
    refine au_all [0, 7] (by kernel_rfl) rfl ⟨.inl (ao_py rfl ?_), .inr (.inr (nw_alloc hN rfl rfl rfl rfl rfl rfl rfl ?_)), trivial⟩
    ·
     refine zp (q_call rkind_fc rfl rfl rfl) ?_
     change AU _ _ _ _ _ _ _ _
     refine au_all [3, 7] (by kernel_rfl) rfl ⟨.inl (ao_py rfl ?_), .inr (.inr (nw_alloc hN rfl rfl rfl rfl rfl rfl rfl ?_)), trivial⟩
     ·
      refine zp (q_call (joinReg_fc os vs ho hv lo lv) rfl rfl rfl) ?_
      change AU _ _ _ _ _ _ _ _
      refine yM 4 ?_; refine yX 5 ?_; refine yX 6 ?_
      refine au_all [7] (by kernel_rfl) rfl ⟨.inr (.inr (nw_alloc hN rfl rfl rfl rfl rfl rfl rfl ?_)), trivial⟩
      change AU _ _ _ _ _ _ _ _
      refine yS 8 ?_; refine yA 9 ?_; refine yD ?_
      exact weak_scrub' rfl (zz4 (zz1 trivial)) ⟨rfl, rfl, rfl, rfl, rfl, rfl, rfl, rfl, rfl, rfl, rfl, rfl, trivial⟩
     change AU _ _ _ _ _ _ _ _
     refine yP 3 rfl (q_call (joinReg_fc os vs ho hv lo lv) rfl rfl rfl) ?_; refine yM 4 ?_; refine yX 5 ?_; refine yX 6 ?_; refine yS 8 ?_
     refine yA 9 ?_; refine yD ?_
     exact weak_scrub' rfl (zz4 (zz1 trivial)) ⟨rfl, rfl, rfl, rfl, rfl, rfl, rfl, rfl, rfl, rfl, rfl, rfl, trivial⟩
    change AU _ _ _ _ _ _ _ _
    refine yP 0 rfl (q_call rkind_fc rfl rfl rfl) ?_; refine yP 3 rfl (q_call (joinReg_fc os vs ho hv lo lv) rfl rfl rfl) ?_; refine yM 4 ?_
    refine yX 5 ?_; refine yX 6 ?_; refine yS 8 ?_; refine yA 9 ?_; refine yD ?_
    exact weak_scrub' rfl (zz4 (zz1 trivial)) ⟨rfl, rfl, rfl, rfl, rfl, rfl, rfl, rfl, rfl, rfl, rfl, rfl, trivial⟩
   change AU _ _ _ _ _ _ _ _
   refine au_all [0, 1] (by kernel_rfl) rfl ⟨.inl (ao_py rfl ?_), .inl (ao_py rfl ?_), trivial⟩
   ·
    refine zp (q_call rkind_fc rfl rfl rfl) ?_
    change AU _ _ _ _ _ _ _ _
    refine yL 1 ?_; refine yP 3 rfl (q_call (joinReg_fc os vs ho hv lo lv) rfl rfl rfl) ?_; refine yM 4 ?_; refine yX 5 ?_; refine yX 6 ?_
    refine yS 8 ?_; refine yA 9 ?_; refine yD ?_
    exact weak_scrub' rfl (zz4 (zz1 trivial)) ⟨rfl, rfl, rfl, rfl, rfl, rfl, rfl, rfl, rfl, rfl, rfl, rfl, trivial⟩
   refine zl ?_
   change AU _ _ _ _ _ _ _ _
   refine yP 0 rfl (q_call rkind_fc rfl rfl rfl) ?_; refine yP 3 rfl (q_call (joinReg_fc os vs ho hv lo lv) rfl rfl rfl) ?_; refine yM 4 ?_
   refine yX 5 ?_; refine yX 6 ?_; refine yS 8 ?_; refine yA 9 ?_; refine yD ?_
   exact weak_scrub' rfl (zz4 (zz1 trivial)) ⟨rfl, rfl, rfl, rfl, rfl, rfl, rfl, rfl, rfl, rfl, rfl, rfl, trivial⟩
  change AU _ _ _ _ _ _ _ _
  refine au_all [0, 1, 2] (by kernel_rfl) rfl ⟨.inl (ao_py rfl ?_), .inl (ao_py rfl ?_), .inl (ao_py rfl ?_), trivial⟩
  ·
   refine zp (q_call rkind_fc rfl rfl rfl) ?_
   change AU _ _ _ _ _ _ _ _
   refine au_all [1, 2] (by kernel_rfl) rfl ⟨.inl (ao_py rfl ?_), .inl (ao_py rfl ?_), trivial⟩
   ·
    refine zl ?_
    change AU _ _ _ _ _ _ _ _
    refine yL 2 ?_; refine yP 3 rfl (q_call (joinReg_fc os vs ho hv lo lv) rfl rfl rfl) ?_; refine yM 4 ?_; refine yX 5 ?_; refine yX 6 ?_
    refine yS 8 ?_; refine yA 9 ?_; refine yD ?_
    exact weak_scrub' rfl (zz4 (zz1 trivial)) ⟨rfl, rfl, rfl, rfl, rfl, rfl, rfl, rfl, rfl, rfl, rfl, rfl, trivial⟩
   refine zl ?_
   change AU _ _ _ _ _ _ _ _
   refine yL 1 ?_; refine yP 3 rfl (q_call (joinReg_fc os vs ho hv lo lv) rfl rfl rfl) ?_; refine yM 4 ?_; refine yX 5 ?_; refine yX 6 ?_
   refine yS 8 ?_; refine yA 9 ?_; refine yD ?_
   exact weak_scrub' rfl (zz4 (zz1 trivial)) ⟨rfl, rfl, rfl, rfl, rfl, rfl, rfl, rfl, rfl, rfl, rfl, rfl, trivial⟩
  ·
   refine zl ?_
   change AU _ _ _ _ _ _ _ _
   refine au_all [0, 2] (by kernel_rfl) rfl ⟨.inl (ao_py rfl ?_), .inl (ao_py rfl ?_), trivial⟩
   ·
    refine zp (q_call rkind_fc rfl rfl rfl) ?_
    change AU _ _ _ _ _ _ _ _
    refine yL 2 ?_; refine yP 3 rfl (q_call (joinReg_fc os vs ho hv lo lv) rfl rfl rfl) ?_; refine yM 4 ?_; refine yX 5 ?_; refine yX 6 ?_
    refine yS 8 ?_; refine yA 9 ?_; refine yD ?_
    exact weak_scrub' rfl (zz4 (zz1 trivial)) ⟨rfl, rfl, rfl, rfl, rfl, rfl, rfl, rfl, rfl, rfl, rfl, rfl, trivial⟩
   refine zl ?_
   change AU _ _ _ _ _ _ _ _
   refine yP 0 rfl (q_call rkind_fc rfl rfl rfl) ?_; refine yP 3 rfl (q_call (joinReg_fc os vs ho hv lo lv) rfl rfl rfl) ?_; refine yM 4 ?_
   refine yX 5 ?_; refine yX 6 ?_; refine yS 8 ?_; refine yA 9 ?_; refine yD ?_
   exact weak_scrub' rfl (zz4 (zz1 trivial)) ⟨rfl, rfl, rfl, rfl, rfl, rfl, rfl, rfl, rfl, rfl, rfl, rfl, trivial⟩
  refine zl ?_
  change AU _ _ _ _ _ _ _ _
  refine au_all [0, 1] (by kernel_rfl) rfl ⟨.inl (ao_py rfl ?_), .inl (ao_py rfl ?_), trivial⟩
  ·
   refine zp (q_call rkind_fc rfl rfl rfl) ?_
   change AU _ _ _ _ _ _ _ _
   refine yL 1 ?_; refine yP 3 rfl (q_call (joinReg_fc os vs ho hv lo lv) rfl rfl rfl) ?_; refine yM 4 ?_; refine yX 5 ?_; refine yX 6 ?_
   refine yS 8 ?_; refine yA 9 ?_; refine yD ?_
   exact weak_scrub' rfl (zz4 (zz1 trivial)) ⟨rfl, rfl, rfl, rfl, rfl, rfl, rfl, rfl, rfl, rfl, rfl, rfl, trivial⟩
  refine zl ?_
  change AU _ _ _ _ _ _ _ _
  refine yP 0 rfl (q_call rkind_fc rfl rfl rfl) ?_; refine yP 3 rfl (q_call (joinReg_fc os vs ho hv lo lv) rfl rfl rfl) ?_; refine yM 4 ?_
  refine yX 5 ?_; refine yX 6 ?_; refine yS 8 ?_; refine yA 9 ?_; refine yD ?_
  exact weak_scrub' rfl (zz4 (zz1 trivial)) ⟨rfl, rfl, rfl, rfl, rfl, rfl, rfl, rfl, rfl, rfl, rfl, rfl, trivial⟩
 refine c_cut (⟨[(2, .ptr 0 0), (3, .ptr 1 0), (5, .ptr 2 0), (6, .ptr 3 0), (7, i64 0), (8, .ptr 4 0), (9, i64 0)], [(0, .var 26 (valL (regV vs))), (1, .var 26 (valL (regV os))), (2, .var 26 (valL (regV (sinceE vs os)))), (3, .var 26 (valL (regV (mergedE os vs)))), (4, .var 26 (valL (regV (mergedE os vs))))], 5⟩) ?_ ?_
 ·
  refine awp_takeN 10 rfl (by kernel_rfl) (by kernel_rfl) (fun _ _ h => h) ?_
  refine au_all [0, 1, 2, 7] (by kernel_rfl) rfl ⟨.inl (ao_py rfl ?_), .inl (ao_py rfl ?_), .inl (ao_py rfl ?_), .inr (.inr (nw_alloc hN rfl rfl rfl rfl rfl rfl rfl ?_)), trivial⟩
  ·
   refine zp (q_call rkind_fc rfl rfl rfl) ?_
   change AU _ _ _ _ _ _ _ _
   refine au_all [1, 2, 7] (by kernel_rfl) rfl ⟨.inl (ao_py rfl ?_), .inl (ao_py rfl ?_), .inr (.inr (nw_alloc hN rfl rfl rfl rfl rfl rfl rfl ?_)), trivial⟩
   ·
    refine zl ?_
    change AU _ _ _ _ _ _ _ _
    refine au_all [2, 7] (by kernel_rfl) rfl ⟨.inl (ao_py rfl ?_), .inr (.inr (nw_alloc hN rfl rfl rfl rfl rfl rfl rfl ?_)), trivial⟩
    ·
     refine zl ?_
     change AU _ _ _ _ _ _ _ _
     refine au_all [3, 7] (by kernel_rfl) rfl ⟨.inl (ao_py rfl ?_), .inr (.inr (nw_alloc hN rfl rfl rfl rfl rfl rfl rfl ?_)), trivial⟩
     ·
      refine zp (q_call (by have h := (joinReg_fc os (sinceE vs os) ho hs lo ls); rw [since_join hv ho] at h; exact h) rfl rfl rfl) ?_
      change AU _ _ _ _ _ _ _ _
      refine yM 4 ?_; refine yX 5 ?_; refine yX 6 ?_
      refine au_all [7] (by kernel_rfl) rfl ⟨.inr (.inr (nw_alloc hN rfl rfl rfl rfl rfl rfl rfl ?_)), trivial⟩
      change AU _ _ _ _ _ _ _ _
      refine yS 8 ?_; refine yA 9 ?_; refine yD ?_
      exact weak_scrub' rfl (zz4 (zz3 trivial)) ⟨rfl, rfl, rfl, rfl, rfl, rfl, rfl, rfl, rfl, rfl, rfl, rfl, rfl, rfl, rfl, trivial⟩
     change AU _ _ _ _ _ _ _ _
     refine yP 3 rfl (q_call (by have h := (joinReg_fc os (sinceE vs os) ho hs lo ls); rw [since_join hv ho] at h; exact h) rfl rfl rfl) ?_
     refine yM 4 ?_; refine yX 5 ?_; refine yX 6 ?_; refine yS 8 ?_; refine yA 9 ?_; refine yD ?_
     exact weak_scrub' rfl (zz4 (zz3 trivial)) ⟨rfl, rfl, rfl, rfl, rfl, rfl, rfl, rfl, rfl, rfl, rfl, rfl, rfl, rfl, rfl, trivial⟩
    change AU _ _ _ _ _ _ _ _
    refine yL 2 ?_
    refine yP 3 rfl (q_call (by have h := (joinReg_fc os (sinceE vs os) ho hs lo ls); rw [since_join hv ho] at h; exact h) rfl rfl rfl) ?_
    refine yM 4 ?_; refine yX 5 ?_; refine yX 6 ?_; refine yS 8 ?_; refine yA 9 ?_; refine yD ?_
    exact weak_scrub' rfl (zz4 (zz3 trivial)) ⟨rfl, rfl, rfl, rfl, rfl, rfl, rfl, rfl, rfl, rfl, rfl, rfl, rfl, rfl, rfl, trivial⟩
   ·
    refine zl ?_
    change AU _ _ _ _ _ _ _ _
    refine au_all [1, 7] (by kernel_rfl) rfl ⟨.inl (ao_py rfl ?_), .inr (.inr (nw_alloc hN rfl rfl rfl rfl rfl rfl rfl ?_)), trivial⟩
    ·
     refine zl ?_
     change AU _ _ _ _ _ _ _ _
     refine au_all [3, 7] (by kernel_rfl) rfl ⟨.inl (ao_py rfl ?_), .inr (.inr (nw_alloc hN rfl rfl rfl rfl rfl rfl rfl ?_)), trivial⟩
     ·
      refine zp (q_call (by have h := (joinReg_fc os (sinceE vs os) ho hs lo ls); rw [since_join hv ho] at h; exact h) rfl rfl rfl) ?_
      change AU _ _ _ _ _ _ _ _
      refine yM 4 ?_; refine yX 5 ?_; refine yX 6 ?_
      refine au_all [7] (by kernel_rfl) rfl ⟨.inr (.inr (nw_alloc hN rfl rfl rfl rfl rfl rfl rfl ?_)), trivial⟩
      change AU _ _ _ _ _ _ _ _
      refine yS 8 ?_; refine yA 9 ?_; refine yD ?_
      exact weak_scrub' rfl (zz4 (zz3 trivial)) ⟨rfl, rfl, rfl, rfl, rfl, rfl, rfl, rfl, rfl, rfl, rfl, rfl, rfl, rfl, rfl, trivial⟩
     change AU _ _ _ _ _ _ _ _
     refine yP 3 rfl (q_call (by have h := (joinReg_fc os (sinceE vs os) ho hs lo ls); rw [since_join hv ho] at h; exact h) rfl rfl rfl) ?_
     refine yM 4 ?_; refine yX 5 ?_; refine yX 6 ?_; refine yS 8 ?_; refine yA 9 ?_; refine yD ?_
     exact weak_scrub' rfl (zz4 (zz3 trivial)) ⟨rfl, rfl, rfl, rfl, rfl, rfl, rfl, rfl, rfl, rfl, rfl, rfl, rfl, rfl, rfl, trivial⟩
    change AU _ _ _ _ _ _ _ _
    refine yL 1 ?_
    refine yP 3 rfl (q_call (by have h := (joinReg_fc os (sinceE vs os) ho hs lo ls); rw [since_join hv ho] at h; exact h) rfl rfl rfl) ?_
    refine yM 4 ?_; refine yX 5 ?_; refine yX 6 ?_; refine yS 8 ?_; refine yA 9 ?_; refine yD ?_
    exact weak_scrub' rfl (zz4 (zz3 trivial)) ⟨rfl, rfl, rfl, rfl, rfl, rfl, rfl, rfl, rfl, rfl, rfl, rfl, rfl, rfl, rfl, trivial⟩
   change AU _ _ _ _ _ _ _ _
   refine au_all [1, 2] (by kernel_rfl) rfl ⟨.inl (ao_py rfl ?_), .inl (ao_py rfl ?_), trivial⟩
   ·
    refine zl ?_
    change AU _ _ _ _ _ _ _ _
    refine yL 2 ?_
    refine yP 3 rfl (q_call (by have h := (joinReg_fc os (sinceE vs os) ho hs lo ls); rw [since_join hv ho] at h; exact h) rfl rfl rfl) ?_
    refine yM 4 ?_; refine yX 5 ?_; refine yX 6 ?_; refine yS 8 ?_; refine yA 9 ?_; refine yD ?_
    exact weak_scrub' rfl (zz4 (zz3 trivial)) ⟨rfl, rfl, rfl, rfl, rfl, rfl, rfl, rfl, rfl, rfl, rfl, rfl, rfl, rfl, rfl, trivial⟩
   refine zl ?_
   change AU _ _ _ _ _ _ _ _
   refine yL 1 ?_
   refine yP 3 rfl (q_call (by have h := (joinReg_fc os (sinceE vs os) ho hs lo ls); rw [since_join hv ho] at h; exact h) rfl rfl rfl) ?_
   refine yM 4 ?_; refine yX 5 ?_; refine yX 6 ?_; refine yS 8 ?_; refine yA 9 ?_; refine yD ?_
   exact weak_scrub' rfl (zz4 (zz3 trivial)) ⟨rfl, rfl, rfl, rfl, rfl, rfl, rfl, rfl, rfl, rfl, rfl, rfl, rfl, rfl, rfl, trivial⟩
  ·
   refine zl ?_
   change AU _ _ _ _ _ _ _ _
   refine au_all [0, 2, 7] (by kernel_rfl) rfl ⟨.inl (ao_py rfl ?_), .inl (ao_py rfl ?_), .inr (.inr (nw_alloc hN rfl rfl rfl rfl rfl rfl rfl ?_)), trivial⟩
   ·
    refine zp (q_call rkind_fc rfl rfl rfl) ?_
    change AU _ _ _ _ _ _ _ _
    refine au_all [2, 7] (by kernel_rfl) rfl ⟨.inl (ao_py rfl ?_), .inr (.inr (nw_alloc hN rfl rfl rfl rfl rfl rfl rfl ?_)), trivial⟩
    ·
     refine zl ?_
     change AU _ _ _ _ _ _ _ _
     refine au_all [3, 7] (by kernel_rfl) rfl ⟨.inl (ao_py rfl ?_), .inr (.inr (nw_alloc hN rfl rfl rfl rfl rfl rfl rfl ?_)), trivial⟩
     ·
      refine zp (q_call (by have h := (joinReg_fc os (sinceE vs os) ho hs lo ls); rw [since_join hv ho] at h; exact h) rfl rfl rfl) ?_
      change AU _ _ _ _ _ _ _ _
      refine yM 4 ?_; refine yX 5 ?_; refine yX 6 ?_
      refine au_all [7] (by kernel_rfl) rfl ⟨.inr (.inr (nw_alloc hN rfl rfl rfl rfl rfl rfl rfl ?_)), trivial⟩
      change AU _ _ _ _ _ _ _ _
      refine yS 8 ?_; refine yA 9 ?_; refine yD ?_
      exact weak_scrub' rfl (zz4 (zz3 trivial)) ⟨rfl, rfl, rfl, rfl, rfl, rfl, rfl, rfl, rfl, rfl, rfl, rfl, rfl, rfl, rfl, trivial⟩
     change AU _ _ _ _ _ _ _ _
     refine yP 3 rfl (q_call (by have h := (joinReg_fc os (sinceE vs os) ho hs lo ls); rw [since_join hv ho] at h; exact h) rfl rfl rfl) ?_
     refine yM 4 ?_; refine yX 5 ?_; refine yX 6 ?_; refine yS 8 ?_; refine yA 9 ?_; refine yD ?_
     exact weak_scrub' rfl (zz4 (zz3 trivial)) ⟨rfl, rfl, rfl, rfl, rfl, rfl, rfl, rfl, rfl, rfl, rfl, rfl, rfl, rfl, rfl, trivial⟩
    change AU _ _ _ _ _ _ _ _
    refine yL 2 ?_
    refine yP 3 rfl (q_call (by have h := (joinReg_fc os (sinceE vs os) ho hs lo ls); rw [since_join hv ho] at h; exact h) rfl rfl rfl) ?_
    refine yM 4 ?_; refine yX 5 ?_; refine yX 6 ?_; refine yS 8 ?_; refine yA 9 ?_; refine yD ?_
    exact weak_scrub' rfl (zz4 (zz3 trivial)) ⟨rfl, rfl, rfl, rfl, rfl, rfl, rfl, rfl, rfl, rfl, rfl, rfl, rfl, rfl, rfl, trivial⟩
   ·
    refine zl ?_
    change AU _ _ _ _ _ _ _ _
    refine au_all [0, 7] (by kernel_rfl) rfl ⟨.inl (ao_py rfl ?_), .inr (.inr (nw_alloc hN rfl rfl rfl rfl rfl rfl rfl ?_)), trivial⟩
    ·
     refine zp (q_call rkind_fc rfl rfl rfl) ?_
     change AU _ _ _ _ _ _ _ _
     refine au_all [3, 7] (by kernel_rfl) rfl ⟨.inl (ao_py rfl ?_), .inr (.inr (nw_alloc hN rfl rfl rfl rfl rfl rfl rfl ?_)), trivial⟩
     ·
      refine zp (q_call (by have h := (joinReg_fc os (sinceE vs os) ho hs lo ls); rw [since_join hv ho] at h; exact h) rfl rfl rfl) ?_
      change AU _ _ _ _ _ _ _ _
      refine yM 4 ?_; refine yX 5 ?_; refine yX 6 ?_
      refine au_all [7] (by kernel_rfl) rfl ⟨.inr (.inr (nw_alloc hN rfl rfl rfl rfl rfl rfl rfl ?_)), trivial⟩
      change AU _ _ _ _ _ _ _ _
      refine yS 8 ?_; refine yA 9 ?_; refine yD ?_
      exact weak_scrub' rfl (zz4 (zz3 trivial)) ⟨rfl, rfl, rfl, rfl, rfl, rfl, rfl, rfl, rfl, rfl, rfl, rfl, rfl, rfl, rfl, trivial⟩
     change AU _ _ _ _ _ _ _ _
     refine yP 3 rfl (q_call (by have h := (joinReg_fc os (sinceE vs os) ho hs lo ls); rw [since_join hv ho] at h; exact h) rfl rfl rfl) ?_
     refine yM 4 ?_; refine yX 5 ?_; refine yX 6 ?_; refine yS 8 ?_; refine yA 9 ?_; refine yD ?_
     exact weak_scrub' rfl (zz4 (zz3 trivial)) ⟨rfl, rfl, rfl, rfl, rfl, rfl, rfl, rfl, rfl, rfl, rfl, rfl, rfl, rfl, rfl, trivial⟩
    change AU _ _ _ _ _ _ _ _
    refine yP 0 rfl (q_call rkind_fc rfl rfl rfl) ?_
    refine yP 3 rfl (q_call (by have h := (joinReg_fc os (sinceE vs os) ho hs lo ls); rw [since_join hv ho] at h; exact h) rfl rfl rfl) ?_
    refine yM 4 ?_; refine yX 5 ?_; refine yX 6 ?_; refine yS 8 ?_; refine yA 9 ?_; refine yD ?_
    exact weak_scrub' rfl (zz4 (zz3 trivial)) ⟨rfl, rfl, rfl, rfl, rfl, rfl, rfl, rfl, rfl, rfl, rfl, rfl, rfl, rfl, rfl, trivial⟩
   change AU _ _ _ _ _ _ _ _
   refine au_all [0, 2] (by kernel_rfl) rfl ⟨.inl (ao_py rfl ?_), .inl (ao_py rfl ?_), trivial⟩
   ·
    refine zp (q_call rkind_fc rfl rfl rfl) ?_
    change AU _ _ _ _ _ _ _ _
    refine yL 2 ?_
    refine yP 3 rfl (q_call (by have h := (joinReg_fc os (sinceE vs os) ho hs lo ls); rw [since_join hv ho] at h; exact h) rfl rfl rfl) ?_
    refine yM 4 ?_; refine yX 5 ?_; refine yX 6 ?_; refine yS 8 ?_; refine yA 9 ?_; refine yD ?_
    exact weak_scrub' rfl (zz4 (zz3 trivial)) ⟨rfl, rfl, rfl, rfl, rfl, rfl, rfl, rfl, rfl, rfl, rfl, rfl, rfl, rfl, rfl, trivial⟩
   refine zl ?_
   change AU _ _ _ _ _ _ _ _
   refine yP 0 rfl (q_call rkind_fc rfl rfl rfl) ?_
   refine yP 3 rfl (q_call (by have h := (joinReg_fc os (sinceE vs os) ho hs lo ls); rw [since_join hv ho] at h; exact h) rfl rfl rfl) ?_
   refine yM 4 ?_; refine yX 5 ?_; refine yX 6 ?_; refine yS 8 ?_; refine yA 9 ?_; refine yD ?_
   exact weak_scrub' rfl (zz4 (zz3 trivial)) ⟨rfl, rfl, rfl, rfl, rfl, rfl, rfl, rfl, rfl, rfl, rfl, rfl, rfl, rfl, rfl, trivial⟩
  ·
   refine zl ?_
   change AU _ _ _ _ _ _ _ _
   refine au_all [0, 1, 7] (by kernel_rfl) rfl ⟨.inl (ao_py rfl ?_), .inl (ao_py rfl ?_), .inr (.inr (nw_alloc hN rfl rfl rfl rfl rfl rfl rfl ?_)), trivial⟩
   ·
    refine zp (q_call rkind_fc rfl rfl rfl) ?_
    change AU _ _ _ _ _ _ _ _
    refine au_all [1, 7] (by kernel_rfl) rfl ⟨.inl (ao_py rfl ?_), .inr (.inr (nw_alloc hN rfl rfl rfl rfl rfl rfl rfl ?_)), trivial⟩
    ·
     refine zl ?_
     change AU _ _ _ _ _ _ _ _
     refine au_all [3, 7] (by kernel_rfl) rfl ⟨.inl (ao_py rfl ?_), .inr (.inr (nw_alloc hN rfl rfl rfl rfl rfl rfl rfl ?_)), trivial⟩
     ·
      refine zp (q_call (by have h := (joinReg_fc os (sinceE vs os) ho hs lo ls); rw [since_join hv ho] at h; exact h) rfl rfl rfl) ?_
      change AU _ _ _ _ _ _ _ _
      refine yM 4 ?_; refine yX 5 ?_; refine yX 6 ?_
      refine au_all [7] (by kernel_rfl) rfl ⟨.inr (.inr (nw_alloc hN rfl rfl rfl rfl rfl rfl rfl ?_)), trivial⟩
      change AU _ _ _ _ _ _ _ _
      refine yS 8 ?_; refine yA 9 ?_; refine yD ?_
      exact weak_scrub' rfl (zz4 (zz3 trivial)) ⟨rfl, rfl, rfl, rfl, rfl, rfl, rfl, rfl, rfl, rfl, rfl, rfl, rfl, rfl, rfl, trivial⟩
     change AU _ _ _ _ _ _ _ _
     refine yP 3 rfl (q_call (by have h := (joinReg_fc os (sinceE vs os) ho hs lo ls); rw [since_join hv ho] at h; exact h) rfl rfl rfl) ?_
     refine yM 4 ?_; refine yX 5 ?_; refine yX 6 ?_; refine yS 8 ?_; refine yA 9 ?_; refine yD ?_
     exact weak_scrub' rfl (zz4 (zz3 trivial)) ⟨rfl, rfl, rfl, rfl, rfl, rfl, rfl, rfl, rfl, rfl, rfl, rfl, rfl, rfl, rfl, trivial⟩
    change AU _ _ _ _ _ _ _ _
    refine yL 1 ?_
    refine yP 3 rfl (q_call (by have h := (joinReg_fc os (sinceE vs os) ho hs lo ls); rw [since_join hv ho] at h; exact h) rfl rfl rfl) ?_
    refine yM 4 ?_; refine yX 5 ?_; refine yX 6 ?_; refine yS 8 ?_; refine yA 9 ?_; refine yD ?_
    exact weak_scrub' rfl (zz4 (zz3 trivial)) ⟨rfl, rfl, rfl, rfl, rfl, rfl, rfl, rfl, rfl, rfl, rfl, rfl, rfl, rfl, rfl, trivial⟩
   ·
    refine zl ?_
    change AU _ _ _ _ _ _ _ _
    refine au_all [0, 7] (by kernel_rfl) rfl ⟨.inl (ao_py rfl ?_), .inr (.inr (nw_alloc hN rfl rfl rfl rfl rfl rfl rfl ?_)), trivial⟩
    ·
     refine zp (q_call rkind_fc rfl rfl rfl) ?_
     change AU _ _ _ _ _ _ _ _
     refine au_all [3, 7] (by kernel_rfl) rfl ⟨.inl (ao_py rfl ?_), .inr (.inr (nw_alloc hN rfl rfl rfl rfl rfl rfl rfl ?_)), trivial⟩
     ·
      refine zp (q_call (by have h := (joinReg_fc os (sinceE vs os) ho hs lo ls); rw [since_join hv ho] at h; exact h) rfl rfl rfl) ?_
      change AU _ _ _ _ _ _ _ _
      refine yM 4 ?_; refine yX 5 ?_; refine yX 6 ?_
      refine au_all [7] (by kernel_rfl) rfl ⟨.inr (.inr (nw_alloc hN rfl rfl rfl rfl rfl rfl rfl ?_)), trivial⟩
      change AU _ _ _ _ _ _ _ _
      refine yS 8 ?_; refine yA 9 ?_; refine yD ?_
      exact weak_scrub' rfl (zz4 (zz3 trivial)) ⟨rfl, rfl, rfl, rfl, rfl, rfl, rfl, rfl, rfl, rfl, rfl, rfl, rfl, rfl, rfl, trivial⟩
     change AU _ _ _ _ _ _ _ _
     refine yP 3 rfl (q_call (by have h := (joinReg_fc os (sinceE vs os) ho hs lo ls); rw [since_join hv ho] at h; exact h) rfl rfl rfl) ?_
     refine yM 4 ?_; refine yX 5 ?_; refine yX 6 ?_; refine yS 8 ?_; refine yA 9 ?_; refine yD ?_
     exact weak_scrub' rfl (zz4 (zz3 trivial)) ⟨rfl, rfl, rfl, rfl, rfl, rfl, rfl, rfl, rfl, rfl, rfl, rfl, rfl, rfl, rfl, trivial⟩
    change AU _ _ _ _ _ _ _ _
    refine yP 0 rfl (q_call rkind_fc rfl rfl rfl) ?_
    refine yP 3 rfl (q_call (by have h := (joinReg_fc os (sinceE vs os) ho hs lo ls); rw [since_join hv ho] at h; exact h) rfl rfl rfl) ?_
    refine yM 4 ?_; refine yX 5 ?_; refine yX 6 ?_; refine yS 8 ?_; refine yA 9 ?_; refine yD ?_
    exact weak_scrub' rfl (zz4 (zz3 trivial)) ⟨rfl, rfl, rfl, rfl, rfl, rfl, rfl, rfl, rfl, rfl, rfl, rfl, rfl, rfl, rfl, trivial⟩
   change AU _ _ _ _ _ _ _ _
   refine au_all [0, 1] (by kernel_rfl) rfl ⟨.inl (ao_py rfl ?_), .inl (ao_py rfl ?_), trivial⟩
   ·
    refine zp (q_call rkind_fc rfl rfl rfl) ?_
    change AU _ _ _ _ _ _ _ _
    refine yL 1 ?_
    refine yP 3 rfl (q_call (by have h := (joinReg_fc os (sinceE vs os) ho hs lo ls); rw [since_join hv ho] at h; exact h) rfl rfl rfl) ?_
    refine yM 4 ?_; refine yX 5 ?_; refine yX 6 ?_; refine yS 8 ?_; refine yA 9 ?_; refine yD ?_
    exact weak_scrub' rfl (zz4 (zz3 trivial)) ⟨rfl, rfl, rfl, rfl, rfl, rfl, rfl, rfl, rfl, rfl, rfl, rfl, rfl, rfl, rfl, trivial⟩
   refine zl ?_
   change AU _ _ _ _ _ _ _ _
   refine yP 0 rfl (q_call rkind_fc rfl rfl rfl) ?_
   refine yP 3 rfl (q_call (by have h := (joinReg_fc os (sinceE vs os) ho hs lo ls); rw [since_join hv ho] at h; exact h) rfl rfl rfl) ?_
   refine yM 4 ?_; refine yX 5 ?_; refine yX 6 ?_; refine yS 8 ?_; refine yA 9 ?_; refine yD ?_
   exact weak_scrub' rfl (zz4 (zz3 trivial)) ⟨rfl, rfl, rfl, rfl, rfl, rfl, rfl, rfl, rfl, rfl, rfl, rfl, rfl, rfl, rfl, trivial⟩
  change AU _ _ _ _ _ _ _ _
  refine au_all [0, 1, 2] (by kernel_rfl) rfl ⟨.inl (ao_py rfl ?_), .inl (ao_py rfl ?_), .inl (ao_py rfl ?_), trivial⟩
  ·
   refine zp (q_call rkind_fc rfl rfl rfl) ?_
   change AU _ _ _ _ _ _ _ _
   refine au_all [1, 2] (by kernel_rfl) rfl ⟨.inl (ao_py rfl ?_), .inl (ao_py rfl ?_), trivial⟩
   ·
    refine zl ?_
    change AU _ _ _ _ _ _ _ _
    refine yL 2 ?_
    refine yP 3 rfl (q_call (by have h := (joinReg_fc os (sinceE vs os) ho hs lo ls); rw [since_join hv ho] at h; exact h) rfl rfl rfl) ?_
    refine yM 4 ?_; refine yX 5 ?_; refine yX 6 ?_; refine yS 8 ?_; refine yA 9 ?_; refine yD ?_
    exact weak_scrub' rfl (zz4 (zz3 trivial)) ⟨rfl, rfl, rfl, rfl, rfl, rfl, rfl, rfl, rfl, rfl, rfl, rfl, rfl, rfl, rfl, trivial⟩
   refine zl ?_
   change AU _ _ _ _ _ _ _ _
   refine yL 1 ?_
   refine yP 3 rfl (q_call (by have h := (joinReg_fc os (sinceE vs os) ho hs lo ls); rw [since_join hv ho] at h; exact h) rfl rfl rfl) ?_
   refine yM 4 ?_; refine yX 5 ?_; refine yX 6 ?_; refine yS 8 ?_; refine yA 9 ?_; refine yD ?_
   exact weak_scrub' rfl (zz4 (zz3 trivial)) ⟨rfl, rfl, rfl, rfl, rfl, rfl, rfl, rfl, rfl, rfl, rfl, rfl, rfl, rfl, rfl, trivial⟩
  ·
   refine zl ?_
   change AU _ _ _ _ _ _ _ _
   refine au_all [0, 2] (by kernel_rfl) rfl ⟨.inl (ao_py rfl ?_), .inl (ao_py rfl ?_), trivial⟩
   ·
    refine zp (q_call rkind_fc rfl rfl rfl) ?_
    change AU _ _ _ _ _ _ _ _
    refine yL 2 ?_
    refine yP 3 rfl (q_call (by have h := (joinReg_fc os (sinceE vs os) ho hs lo ls); rw [since_join hv ho] at h; exact h) rfl rfl rfl) ?_
    refine yM 4 ?_; refine yX 5 ?_; refine yX 6 ?_; refine yS 8 ?_; refine yA 9 ?_; refine yD ?_
    exact weak_scrub' rfl (zz4 (zz3 trivial)) ⟨rfl, rfl, rfl, rfl, rfl, rfl, rfl, rfl, rfl, rfl, rfl, rfl, rfl, rfl, rfl, trivial⟩
   refine zl ?_
   change AU _ _ _ _ _ _ _ _
   refine yP 0 rfl (q_call rkind_fc rfl rfl rfl) ?_
   refine yP 3 rfl (q_call (by have h := (joinReg_fc os (sinceE vs os) ho hs lo ls); rw [since_join hv ho] at h; exact h) rfl rfl rfl) ?_
   refine yM 4 ?_; refine yX 5 ?_; refine yX 6 ?_; refine yS 8 ?_; refine yA 9 ?_; refine yD ?_
   exact weak_scrub' rfl (zz4 (zz3 trivial)) ⟨rfl, rfl, rfl, rfl, rfl, rfl, rfl, rfl, rfl, rfl, rfl, rfl, rfl, rfl, rfl, trivial⟩
  refine zl ?_
  change AU _ _ _ _ _ _ _ _
  refine au_all [0, 1] (by kernel_rfl) rfl ⟨.inl (ao_py rfl ?_), .inl (ao_py rfl ?_), trivial⟩
  ·
   refine zp (q_call rkind_fc rfl rfl rfl) ?_
   change AU _ _ _ _ _ _ _ _
   refine yL 1 ?_
   refine yP 3 rfl (q_call (by have h := (joinReg_fc os (sinceE vs os) ho hs lo ls); rw [since_join hv ho] at h; exact h) rfl rfl rfl) ?_
   refine yM 4 ?_; refine yX 5 ?_; refine yX 6 ?_; refine yS 8 ?_; refine yA 9 ?_; refine yD ?_
   exact weak_scrub' rfl (zz4 (zz3 trivial)) ⟨rfl, rfl, rfl, rfl, rfl, rfl, rfl, rfl, rfl, rfl, rfl, rfl, rfl, rfl, rfl, trivial⟩
  refine zl ?_
  change AU _ _ _ _ _ _ _ _
  refine yP 0 rfl (q_call rkind_fc rfl rfl rfl) ?_
  refine yP 3 rfl (q_call (by have h := (joinReg_fc os (sinceE vs os) ho hs lo ls); rw [since_join hv ho] at h; exact h) rfl rfl rfl) ?_
  refine yM 4 ?_; refine yX 5 ?_; refine yX 6 ?_; refine yS 8 ?_; refine yA 9 ?_; refine yD ?_
  exact weak_scrub' rfl (zz4 (zz3 trivial)) ⟨rfl, rfl, rfl, rfl, rfl, rfl, rfl, rfl, rfl, rfl, rfl, rfl, rfl, rfl, rfl, trivial⟩
 refine awp_seq ?_; refine awp_seq ?_; refine awp_draw 21 (by kernel_rfl) (by kernel_rfl) ?_; refine zm ?_; refine zp (q_bin rfl rfl rfl) ?_
 refine zm ?_; refine zm ?_; refine zp (q_bin rfl rfl rfl) ?_; refine zp (q_pick0 rfl rfl rfl rfl) ?_; refine zm ?_; refine zl ?_; refine zl ?_
 refine zp (q_call (fcb (c := true) (rEqual_fc (regV (mergedE os vs)) (regV (mergedE os vs))) ((eqV_iff _ _).2 rfl)) rfl rfl rfl) ?_
 refine zp (q_not rfl rfl) ?_; refine zp (q_pick0 rfl rfl rfl rfl) ?_; refine zm ?_; refine zl ?_; refine zl ?_
 refine zp (q_call (rcovers_fc (regV os) (regV vs)) rfl rfl rfl) ?_; refine zp (q_call rkind_fc rfl rfl rfl) ?_; refine zl ?_; refine zl ?_
 refine zp (q_call (by have h := leqJ_fc regL (regV vs) (regV os); rw [leqJ_on regC (reg_el hv) (reg_el ho), ← covers_leq hv ho] at h; exact h) rfl rfl rfl) ?_
 refine zp (q_binb (b := false) rfl rfl rfl (by simp [regV, Val.es])) ?_; change AOps _ _ _ _ _ _; refine zh0 rfl ?_; refine zN ?_
 refine c_false rfl rfl ?_; refine zW ?_; refine zH ?_; refine zT ?_; refine awp_block ?_
 refine awp_loop (fun q : {q : Nat // q ≤ (sinceE vs os).length} => ⟨[(3, .ptr 1 0), (5, .ptr 2 0), (6, .ptr 3 0), (10, i64 (q.1 : Nat))], [(1, .var 26 (valL (regV os))), (2, .var 26 (valL (regV (sinceE vs os)))), (3, .var 26 (valL (regV (mergedE os vs))))], 4⟩) (fun q => (sinceE vs os).length - q.1) (⟨0, Nat.zero_le _⟩) ?_ ?_
 ·
  exact weak_scrub' rfl (zz4 trivial) ⟨rfl, rfl, rfl, rfl, rfl, rfl, rfl, rfl, rfl, trivial⟩
 rintro ⟨k, hk⟩
 dsimp only
 refine zH ?_; refine zM ?_; refine zF ?_; refine zL ?_; refine zE ?_; refine zB ?_; refine zN ?_
 refine zq ?_ ?_ <;> intro h483
 ·
  have hlt : k < (sinceE vs os).length := by simpa [regV, Val.es] using h483
  refine zW ?_; refine awp_seq ?_; refine awp_block ?_
  refine c_cut (⟨[(3, .ptr 1 0), (5, .ptr 2 0), (6, .ptr 3 0), (10, i64 (k : Nat)), (11, .ptr 5 0)], [(1, .var 26 (valL (regV os))), (2, .var 26 (valL (regV (sinceE vs os)))), (3, .var 26 (valL (regV (mergedE os vs)))), (5, .var 26 [i64 0, .p (.slice none 0 0), .p (.slice none 0 0), ens (lessE (sinceE vs os) k)])], 6⟩) ?_ ?_
  ·
   refine awp_takeN 15 rfl (by kernel_rfl) (by kernel_rfl) (fun _ _ h => h) ?_
   refine au_take 1 rfl (by kernel_rfl) (by kernel_rfl) rfl (wi_fieldAddr hN rfl rfl rfl rfl rfl rfl rfl rfl) ?_; refine yM 3 ?_
   refine au_take 6 rfl (by kernel_rfl) (by kernel_rfl) rfl (wi_fieldAddr hN rfl rfl rfl rfl rfl rfl rfl rfl) ?_; refine yM 8 ?_
   refine au_take 9 rfl (by kernel_rfl) (by kernel_rfl) rfl (wi_addi hN rfl rfl rfl (by omega) rfl rfl rfl rfl) ?_
   refine au_all [0, 2, 7, 13] (by kernel_rfl) rfl ⟨.inr (.inr (nw_bslice0 hN rfl rfl rfl rfl rfl rfl rfl ?_)), .inl (ao_py rfl ?_), .inl (ao_py rfl ?_), .inr (.inr (nw_alloc1 hN rfl rfl rfl rfl rfl rfl rfl rfl ?_)), trivial⟩
   ·
    change AU _ _ _ _ _ _ _ _
    refine au_all [2, 7, 13] (by kernel_rfl) rfl ⟨.inl (ao_py rfl ?_), .inl (ao_py rfl ?_), .inr (.inr (nw_alloc hN rfl rfl rfl rfl rfl rfl rfl ?_)), trivial⟩
    ·
     refine zl ?_
     change AU _ _ _ _ _ _ _ _
     refine au_take 4 rfl (by kernel_rfl) (by kernel_rfl) rfl (wi_to hN (l := sinceE vs os) (f := enC) rfl rfl rfl k rfl (by omega) (fun _ => rfl) rfl rfl rfl rfl) ?_
     refine au_all [5, 7, 13] (by kernel_rfl) rfl ⟨.inr (.inr (nw_append_own hN rfl rfl rfl rfl (by simp) rfl rfl (all_okE okE_en _) (by simp; omega) rfl rfl rfl rfl ?_)), .inl (ao_py rfl ?_), .inr (.inr (nw_alloc hN rfl rfl rfl rfl rfl rfl rfl ?_)), trivial⟩
     ·
      change AU _ _ _ _ _ _ _ _
      refine au_all [7, 13] (by kernel_rfl) rfl ⟨.inl (ao_py rfl ?_), .inr (.inr (nw_alloc hN rfl rfl rfl rfl rfl rfl rfl ?_)), trivial⟩
      ·
       refine zl ?_
       change AU _ _ _ _ _ _ _ _
       refine au_take 10 rfl (by kernel_rfl) (by kernel_rfl) rfl (wi_from hN (l := sinceE vs os) (f := enC) rfl rfl rfl (k + 1) rfl (by omega) (fun _ => rfl) rfl rfl rfl rfl) ?_
       refine au_all [11, 13] (by kernel_rfl) rfl ⟨.inr (.inr (nw_append_own hN rfl rfl rfl rfl (by simp) rfl rfl (all_okE okE_en _) (by simp; omega) rfl rfl rfl rfl ?_)), .inr (.inr (nw_alloc hN rfl rfl rfl rfl rfl rfl rfl ?_)), trivial⟩
       ·
        change AU _ _ _ _ _ _ _ _
        refine au_all [12, 13] (by kernel_rfl) rfl ⟨.inr (.inr (nw_weak hN rfl rfl rfl rfl rfl (weak_frow 81 4 rfl rfl (by simp) (by rw [List.nil_append, ← List.map_append]; exact all_okE okE_en _) (by rw [List.nil_append, ← List.map_append]; exact fz_ens _) rfl) (q_build rfl rfl rfl) ?_)), .inr (.inr (nw_alloc hN rfl rfl rfl rfl rfl rfl rfl ?_)), trivial⟩
        ·
         change AU _ _ _ _ _ _ _ _
         refine au_all [13] (by kernel_rfl) rfl ⟨.inr (.inr (nw_alloc hN rfl rfl rfl rfl rfl rfl rfl ?_)), trivial⟩
         change AU _ _ _ _ _ _ _ _
         refine yS 14 ?_; refine yD ?_
         exact weak_scrub' rfl (zz4 (zz1 trivial)) ⟨rfl, rfl, rfl, rfl, rfl, rfl, rfl, rfl, rfl, cgLess, rfl, rfl, trivial⟩
        change AU _ _ _ _ _ _ _ _
        refine au_all [12] (by kernel_rfl) rfl ⟨.inr (.inr (nw_weak hN rfl rfl rfl rfl rfl (weak_frow 81 4 rfl rfl (by simp) (by rw [List.nil_append, ← List.map_append]; exact all_okE okE_en _) (by rw [List.nil_append, ← List.map_append]; exact fz_ens _) rfl) (q_build rfl rfl rfl) ?_)), trivial⟩
        change AU _ _ _ _ _ _ _ _
        refine yS 14 ?_; refine yD ?_
        exact weak_scrub' rfl (zz4 (zz1 trivial)) ⟨rfl, rfl, rfl, rfl, rfl, rfl, rfl, rfl, rfl, cgLess, rfl, rfl, trivial⟩
       change AU _ _ _ _ _ _ _ _
       refine au_all [11] (by kernel_rfl) rfl ⟨.inr (.inr (nw_append_own hN rfl rfl rfl rfl (by simp) rfl rfl (all_okE okE_en _) (by simp; omega) rfl rfl rfl rfl ?_)), trivial⟩
       change AU _ _ _ _ _ _ _ _
       refine au_all [12] (by kernel_rfl) rfl ⟨.inr (.inr (nw_weak hN rfl rfl rfl rfl rfl (weak_frow 81 4 rfl rfl (by simp) (by rw [List.nil_append, ← List.map_append]; exact all_okE okE_en _) (by rw [List.nil_append, ← List.map_append]; exact fz_ens _) rfl) (q_build rfl rfl rfl) ?_)), trivial⟩
       change AU _ _ _ _ _ _ _ _
       refine yS 14 ?_; refine yD ?_
       exact weak_scrub' rfl (zz4 (zz1 trivial)) ⟨rfl, rfl, rfl, rfl, rfl, rfl, rfl, rfl, rfl, cgLess, rfl, rfl, trivial⟩
      change AU _ _ _ _ _ _ _ _
      refine yL 7 ?_
      refine au_take 10 rfl (by kernel_rfl) (by kernel_rfl) rfl (wi_from hN (l := sinceE vs os) (f := enC) rfl rfl rfl (k + 1) rfl (by omega) (fun _ => rfl) rfl rfl rfl rfl) ?_
      refine au_all [11] (by kernel_rfl) rfl ⟨.inr (.inr (nw_append_own hN rfl rfl rfl rfl (by simp) rfl rfl (all_okE okE_en _) (by simp; omega) rfl rfl rfl rfl ?_)), trivial⟩
      change AU _ _ _ _ _ _ _ _
      refine au_all [12] (by kernel_rfl) rfl ⟨.inr (.inr (nw_weak hN rfl rfl rfl rfl rfl (weak_frow 81 4 rfl rfl (by simp) (by rw [List.nil_append, ← List.map_append]; exact all_okE okE_en _) (by rw [List.nil_append, ← List.map_append]; exact fz_ens _) rfl) (q_build rfl rfl rfl) ?_)), trivial⟩
      change AU _ _ _ _ _ _ _ _
      refine yS 14 ?_; refine yD ?_
      exact weak_scrub' rfl (zz4 (zz1 trivial)) ⟨rfl, rfl, rfl, rfl, rfl, rfl, rfl, rfl, rfl, cgLess, rfl, rfl, trivial⟩
     ·
      refine zl ?_
      change AU _ _ _ _ _ _ _ _
      refine au_take 10 rfl (by kernel_rfl) (by kernel_rfl) rfl (wi_from hN (l := sinceE vs os) (f := enC) rfl rfl rfl (k + 1) rfl (by omega) (fun _ => rfl) rfl rfl rfl rfl) ?_
      refine au_all [5, 13] (by kernel_rfl) rfl ⟨.inr (.inr (nw_append_own hN rfl rfl rfl rfl (by simp) rfl rfl (all_okE okE_en _) (by simp; omega) rfl rfl rfl rfl ?_)), .inr (.inr (nw_alloc hN rfl rfl rfl rfl rfl rfl rfl ?_)), trivial⟩
      ·
       change AU _ _ _ _ _ _ _ _
       refine au_all [11, 13] (by kernel_rfl) rfl ⟨.inr (.inr (nw_append_own hN rfl rfl rfl rfl (by simp) rfl rfl (all_okE okE_en _) (by simp; omega) rfl rfl rfl rfl ?_)), .inr (.inr (nw_alloc hN rfl rfl rfl rfl rfl rfl rfl ?_)), trivial⟩
       ·
        change AU _ _ _ _ _ _ _ _
        refine au_all [12, 13] (by kernel_rfl) rfl ⟨.inr (.inr (nw_weak hN rfl rfl rfl rfl rfl (weak_frow 81 4 rfl rfl (by simp) (by rw [List.nil_append, ← List.map_append]; exact all_okE okE_en _) (by rw [List.nil_append, ← List.map_append]; exact fz_ens _) rfl) (q_build rfl rfl rfl) ?_)), .inr (.inr (nw_alloc hN rfl rfl rfl rfl rfl rfl rfl ?_)), trivial⟩
        ·
         change AU _ _ _ _ _ _ _ _
         refine au_all [13] (by kernel_rfl) rfl ⟨.inr (.inr (nw_alloc hN rfl rfl rfl rfl rfl rfl rfl ?_)), trivial⟩
         change AU _ _ _ _ _ _ _ _
         refine yS 14 ?_; refine yD ?_
         exact weak_scrub' rfl (zz4 (zz1 trivial)) ⟨rfl, rfl, rfl, rfl, rfl, rfl, rfl, rfl, rfl, cgLess, rfl, rfl, trivial⟩
        change AU _ _ _ _ _ _ _ _
        refine au_all [12] (by kernel_rfl) rfl ⟨.inr (.inr (nw_weak hN rfl rfl rfl rfl rfl (weak_frow 81 4 rfl rfl (by simp) (by rw [List.nil_append, ← List.map_append]; exact all_okE okE_en _) (by rw [List.nil_append, ← List.map_append]; exact fz_ens _) rfl) (q_build rfl rfl rfl) ?_)), trivial⟩
        change AU _ _ _ _ _ _ _ _
        refine yS 14 ?_; refine yD ?_
        exact weak_scrub' rfl (zz4 (zz1 trivial)) ⟨rfl, rfl, rfl, rfl, rfl, rfl, rfl, rfl, rfl, cgLess, rfl, rfl, trivial⟩
       change AU _ _ _ _ _ _ _ _
       refine au_all [11] (by kernel_rfl) rfl ⟨.inr (.inr (nw_append_own hN rfl rfl rfl rfl (by simp) rfl rfl (all_okE okE_en _) (by simp; omega) rfl rfl rfl rfl ?_)), trivial⟩
       change AU _ _ _ _ _ _ _ _
       refine au_all [12] (by kernel_rfl) rfl ⟨.inr (.inr (nw_weak hN rfl rfl rfl rfl rfl (weak_frow 81 4 rfl rfl (by simp) (by rw [List.nil_append, ← List.map_append]; exact all_okE okE_en _) (by rw [List.nil_append, ← List.map_append]; exact fz_ens _) rfl) (q_build rfl rfl rfl) ?_)), trivial⟩
       change AU _ _ _ _ _ _ _ _
       refine yS 14 ?_; refine yD ?_
       exact weak_scrub' rfl (zz4 (zz1 trivial)) ⟨rfl, rfl, rfl, rfl, rfl, rfl, rfl, rfl, rfl, cgLess, rfl, rfl, trivial⟩
      change AU _ _ _ _ _ _ _ _
      refine au_all [5] (by kernel_rfl) rfl ⟨.inr (.inr (nw_append_own hN rfl rfl rfl rfl (by simp) rfl rfl (all_okE okE_en _) (by simp; omega) rfl rfl rfl rfl ?_)), trivial⟩
      change AU _ _ _ _ _ _ _ _
      refine au_all [11] (by kernel_rfl) rfl ⟨.inr (.inr (nw_append_own hN rfl rfl rfl rfl (by simp) rfl rfl (all_okE okE_en _) (by simp; omega) rfl rfl rfl rfl ?_)), trivial⟩
      change AU _ _ _ _ _ _ _ _
      refine au_all [12] (by kernel_rfl) rfl ⟨.inr (.inr (nw_weak hN rfl rfl rfl rfl rfl (weak_frow 81 4 rfl rfl (by simp) (by rw [List.nil_append, ← List.map_append]; exact all_okE okE_en _) (by rw [List.nil_append, ← List.map_append]; exact fz_ens _) rfl) (q_build rfl rfl rfl) ?_)), trivial⟩
      change AU _ _ _ _ _ _ _ _
      refine yS 14 ?_; refine yD ?_
      exact weak_scrub' rfl (zz4 (zz1 trivial)) ⟨rfl, rfl, rfl, rfl, rfl, rfl, rfl, rfl, rfl, cgLess, rfl, rfl, trivial⟩
     change AU _ _ _ _ _ _ _ _
     refine au_all [5, 7] (by kernel_rfl) rfl ⟨.inr (.inr (nw_append_own hN rfl rfl rfl rfl (by simp) rfl rfl (all_okE okE_en _) (by simp; omega) rfl rfl rfl rfl ?_)), .inl (ao_py rfl ?_), trivial⟩
     ·
      change AU _ _ _ _ _ _ _ _
      refine yL 7 ?_
      refine au_take 10 rfl (by kernel_rfl) (by kernel_rfl) rfl (wi_from hN (l := sinceE vs os) (f := enC) rfl rfl rfl (k + 1) rfl (by omega) (fun _ => rfl) rfl rfl rfl rfl) ?_
      refine au_all [11] (by kernel_rfl) rfl ⟨.inr (.inr (nw_append_own hN rfl rfl rfl rfl (by simp) rfl rfl (all_okE okE_en _) (by simp; omega) rfl rfl rfl rfl ?_)), trivial⟩
      change AU _ _ _ _ _ _ _ _
      refine au_all [12] (by kernel_rfl) rfl ⟨.inr (.inr (nw_weak hN rfl rfl rfl rfl rfl (weak_frow 81 4 rfl rfl (by simp) (by rw [List.nil_append, ← List.map_append]; exact all_okE okE_en _) (by rw [List.nil_append, ← List.map_append]; exact fz_ens _) rfl) (q_build rfl rfl rfl) ?_)), trivial⟩
      change AU _ _ _ _ _ _ _ _
      refine yS 14 ?_; refine yD ?_
      exact weak_scrub' rfl (zz4 (zz1 trivial)) ⟨rfl, rfl, rfl, rfl, rfl, rfl, rfl, rfl, rfl, cgLess, rfl, rfl, trivial⟩
     refine zl ?_
     change AU _ _ _ _ _ _ _ _
     refine au_take 10 rfl (by kernel_rfl) (by kernel_rfl) rfl (wi_from hN (l := sinceE vs os) (f := enC) rfl rfl rfl (k + 1) rfl (by omega) (fun _ => rfl) rfl rfl rfl rfl) ?_
     refine au_all [5] (by kernel_rfl) rfl ⟨.inr (.inr (nw_append_own hN rfl rfl rfl rfl (by simp) rfl rfl (all_okE okE_en _) (by simp; omega) rfl rfl rfl rfl ?_)), trivial⟩
     change AU _ _ _ _ _ _ _ _
     refine au_all [11] (by kernel_rfl) rfl ⟨.inr (.inr (nw_append_own hN rfl rfl rfl rfl (by simp) rfl rfl (all_okE okE_en _) (by simp; omega) rfl rfl rfl rfl ?_)), trivial⟩
     change AU _ _ _ _ _ _ _ _
     refine au_all [12] (by kernel_rfl) rfl ⟨.inr (.inr (nw_weak hN rfl rfl rfl rfl rfl (weak_frow 81 4 rfl rfl (by simp) (by rw [List.nil_append, ← List.map_append]; exact all_okE okE_en _) (by rw [List.nil_append, ← List.map_append]; exact fz_ens _) rfl) (q_build rfl rfl rfl) ?_)), trivial⟩
     change AU _ _ _ _ _ _ _ _
     refine yS 14 ?_; refine yD ?_
     exact weak_scrub' rfl (zz4 (zz1 trivial)) ⟨rfl, rfl, rfl, rfl, rfl, rfl, rfl, rfl, rfl, cgLess, rfl, rfl, trivial⟩
    ·
     refine zl ?_
     change AU _ _ _ _ _ _ _ _
     refine au_take 10 rfl (by kernel_rfl) (by kernel_rfl) rfl (wi_from hN (l := sinceE vs os) (f := enC) rfl rfl rfl (k + 1) rfl (by omega) (fun _ => rfl) rfl rfl rfl rfl) ?_
     refine au_all [2, 13] (by kernel_rfl) rfl ⟨.inl (ao_py rfl ?_), .inr (.inr (nw_alloc hN rfl rfl rfl rfl rfl rfl rfl ?_)), trivial⟩
     ·
      refine zl ?_
      change AU _ _ _ _ _ _ _ _
      refine au_take 4 rfl (by kernel_rfl) (by kernel_rfl) rfl (wi_to hN (l := sinceE vs os) (f := enC) rfl rfl rfl k rfl (by omega) (fun _ => rfl) rfl rfl rfl rfl) ?_
      refine au_all [5, 13] (by kernel_rfl) rfl ⟨.inr (.inr (nw_append_own hN rfl rfl rfl rfl (by simp) rfl rfl (all_okE okE_en _) (by simp; omega) rfl rfl rfl rfl ?_)), .inr (.inr (nw_alloc hN rfl rfl rfl rfl rfl rfl rfl ?_)), trivial⟩
      ·
       change AU _ _ _ _ _ _ _ _
       refine au_all [11, 13] (by kernel_rfl) rfl ⟨.inr (.inr (nw_append_own hN rfl rfl rfl rfl (by simp) rfl rfl (all_okE okE_en _) (by simp; omega) rfl rfl rfl rfl ?_)), .inr (.inr (nw_alloc hN rfl rfl rfl rfl rfl rfl rfl ?_)), trivial⟩
       ·
        change AU _ _ _ _ _ _ _ _
        refine au_all [12, 13] (by kernel_rfl) rfl ⟨.inr (.inr (nw_weak hN rfl rfl rfl rfl rfl (weak_frow 81 4 rfl rfl (by simp) (by rw [List.nil_append, ← List.map_append]; exact all_okE okE_en _) (by rw [List.nil_append, ← List.map_append]; exact fz_ens _) rfl) (q_build rfl rfl rfl) ?_)), .inr (.inr (nw_alloc hN rfl rfl rfl rfl rfl rfl rfl ?_)), trivial⟩
        ·
         change AU _ _ _ _ _ _ _ _
         refine au_all [13] (by kernel_rfl) rfl ⟨.inr (.inr (nw_alloc hN rfl rfl rfl rfl rfl rfl rfl ?_)), trivial⟩
         change AU _ _ _ _ _ _ _ _
         refine yS 14 ?_; refine yD ?_
         exact weak_scrub' rfl (zz4 (zz1 trivial)) ⟨rfl, rfl, rfl, rfl, rfl, rfl, rfl, rfl, rfl, cgLess, rfl, rfl, trivial⟩
        change AU _ _ _ _ _ _ _ _
        refine au_all [12] (by kernel_rfl) rfl ⟨.inr (.inr (nw_weak hN rfl rfl rfl rfl rfl (weak_frow 81 4 rfl rfl (by simp) (by rw [List.nil_append, ← List.map_append]; exact all_okE okE_en _) (by rw [List.nil_append, ← List.map_append]; exact fz_ens _) rfl) (q_build rfl rfl rfl) ?_)), trivial⟩
        change AU _ _ _ _ _ _ _ _
        refine yS 14 ?_; refine yD ?_
        exact weak_scrub' rfl (zz4 (zz1 trivial)) ⟨rfl, rfl, rfl, rfl, rfl, rfl, rfl, rfl, rfl, cgLess, rfl, rfl, trivial⟩
       change AU _ _ _ _ _ _ _ _
       refine au_all [11] (by kernel_rfl) rfl ⟨.inr (.inr (nw_append_own hN rfl rfl rfl rfl (by simp) rfl rfl (all_okE okE_en _) (by simp; omega) rfl rfl rfl rfl ?_)), trivial⟩
       change AU _ _ _ _ _ _ _ _
       refine au_all [12] (by kernel_rfl) rfl ⟨.inr (.inr (nw_weak hN rfl rfl rfl rfl rfl (weak_frow 81 4 rfl rfl (by simp) (by rw [List.nil_append, ← List.map_append]; exact all_okE okE_en _) (by rw [List.nil_append, ← List.map_append]; exact fz_ens _) rfl) (q_build rfl rfl rfl) ?_)), trivial⟩
       change AU _ _ _ _ _ _ _ _
       refine yS 14 ?_; refine yD ?_
       exact weak_scrub' rfl (zz4 (zz1 trivial)) ⟨rfl, rfl, rfl, rfl, rfl, rfl, rfl, rfl, rfl, cgLess, rfl, rfl, trivial⟩
      change AU _ _ _ _ _ _ _ _
      refine au_all [5] (by kernel_rfl) rfl ⟨.inr (.inr (nw_append_own hN rfl rfl rfl rfl (by simp) rfl rfl (all_okE okE_en _) (by simp; omega) rfl rfl rfl rfl ?_)), trivial⟩
      change AU _ _ _ _ _ _ _ _
      refine au_all [11] (by kernel_rfl) rfl ⟨.inr (.inr (nw_append_own hN rfl rfl rfl rfl (by simp) rfl rfl (all_okE okE_en _) (by simp; omega) rfl rfl rfl rfl ?_)), trivial⟩
      change AU _ _ _ _ _ _ _ _
      refine au_all [12] (by kernel_rfl) rfl ⟨.inr (.inr (nw_weak hN rfl rfl rfl rfl rfl (weak_frow 81 4 rfl rfl (by simp) (by rw [List.nil_append, ← List.map_append]; exact all_okE okE_en _) (by rw [List.nil_append, ← List.map_append]; exact fz_ens _) rfl) (q_build rfl rfl rfl) ?_)), trivial⟩
      change AU _ _ _ _ _ _ _ _
      refine yS 14 ?_; refine yD ?_
      exact weak_scrub' rfl (zz4 (zz1 trivial)) ⟨rfl, rfl, rfl, rfl, rfl, rfl, rfl, rfl, rfl, cgLess, rfl, rfl, trivial⟩
     change AU _ _ _ _ _ _ _ _
     refine yL 2 ?_
     refine au_take 4 rfl (by kernel_rfl) (by kernel_rfl) rfl (wi_to hN (l := sinceE vs os) (f := enC) rfl rfl rfl k rfl (by omega) (fun _ => rfl) rfl rfl rfl rfl) ?_
     refine au_all [5] (by kernel_rfl) rfl ⟨.inr (.inr (nw_append_own hN rfl rfl rfl rfl (by simp) rfl rfl (all_okE okE_en _) (by simp; omega) rfl rfl rfl rfl ?_)), trivial⟩
     change AU _ _ _ _ _ _ _ _
     refine au_all [11] (by kernel_rfl) rfl ⟨.inr (.inr (nw_append_own hN rfl rfl rfl rfl (by simp) rfl rfl (all_okE okE_en _) (by simp; omega) rfl rfl rfl rfl ?_)), trivial⟩
     change AU _ _ _ _ _ _ _ _
     refine au_all [12] (by kernel_rfl) rfl ⟨.inr (.inr (nw_weak hN rfl rfl rfl rfl rfl (weak_frow 81 4 rfl rfl (by simp) (by rw [List.nil_append, ← List.map_append]; exact all_okE okE_en _) (by rw [List.nil_append, ← List.map_append]; exact fz_ens _) rfl) (q_build rfl rfl rfl) ?_)), trivial⟩
     change AU _ _ _ _ _ _ _ _
     refine yS 14 ?_; refine yD ?_
     exact weak_scrub' rfl (zz4 (zz1 trivial)) ⟨rfl, rfl, rfl, rfl, rfl, rfl, rfl, rfl, rfl, cgLess, rfl, rfl, trivial⟩
    change AU _ _ _ _ _ _ _ _
    refine au_all [2, 7] (by kernel_rfl) rfl ⟨.inl (ao_py rfl ?_), .inl (ao_py rfl ?_), trivial⟩
    ·
     refine zl ?_
     change AU _ _ _ _ _ _ _ _
     refine au_take 4 rfl (by kernel_rfl) (by kernel_rfl) rfl (wi_to hN (l := sinceE vs os) (f := enC) rfl rfl rfl k rfl (by omega) (fun _ => rfl) rfl rfl rfl rfl) ?_
     refine au_all [5, 7] (by kernel_rfl) rfl ⟨.inr (.inr (nw_append_own hN rfl rfl rfl rfl (by simp) rfl rfl (all_okE okE_en _) (by simp; omega) rfl rfl rfl rfl ?_)), .inl (ao_py rfl ?_), trivial⟩
     ·
      change AU _ _ _ _ _ _ _ _
      refine yL 7 ?_
      refine au_take 10 rfl (by kernel_rfl) (by kernel_rfl) rfl (wi_from hN (l := sinceE vs os) (f := enC) rfl rfl rfl (k + 1) rfl (by omega) (fun _ => rfl) rfl rfl rfl rfl) ?_
      refine au_all [11] (by kernel_rfl) rfl ⟨.inr (.inr (nw_append_own hN rfl rfl rfl rfl (by simp) rfl rfl (all_okE okE_en _) (by simp; omega) rfl rfl rfl rfl ?_)), trivial⟩
      change AU _ _ _ _ _ _ _ _
      refine au_all [12] (by kernel_rfl) rfl ⟨.inr (.inr (nw_weak hN rfl rfl rfl rfl rfl (weak_frow 81 4 rfl rfl (by simp) (by rw [List.nil_append, ← List.map_append]; exact all_okE okE_en _) (by rw [List.nil_append, ← List.map_append]; exact fz_ens _) rfl) (q_build rfl rfl rfl) ?_)), trivial⟩
      change AU _ _ _ _ _ _ _ _
      refine yS 14 ?_; refine yD ?_
      exact weak_scrub' rfl (zz4 (zz1 trivial)) ⟨rfl, rfl, rfl, rfl, rfl, rfl, rfl, rfl, rfl, cgLess, rfl, rfl, trivial⟩
     refine zl ?_
     change AU _ _ _ _ _ _ _ _
     refine au_take 10 rfl (by kernel_rfl) (by kernel_rfl) rfl (wi_from hN (l := sinceE vs os) (f := enC) rfl rfl rfl (k + 1) rfl (by omega) (fun _ => rfl) rfl rfl rfl rfl) ?_
     refine au_all [5] (by kernel_rfl) rfl ⟨.inr (.inr (nw_append_own hN rfl rfl rfl rfl (by simp) rfl rfl (all_okE okE_en _) (by simp; omega) rfl rfl rfl rfl ?_)), trivial⟩
     change AU _ _ _ _ _ _ _ _
     refine au_all [11] (by kernel_rfl) rfl ⟨.inr (.inr (nw_append_own hN rfl rfl rfl rfl (by simp) rfl rfl (all_okE okE_en _) (by simp; omega) rfl rfl rfl rfl ?_)), trivial⟩
     change AU _ _ _ _ _ _ _ _
     refine au_all [12] (by kernel_rfl) rfl ⟨.inr (.inr (nw_weak hN rfl rfl rfl rfl rfl (weak_frow 81 4 rfl rfl (by simp) (by rw [List.nil_append, ← List.map_append]; exact all_okE okE_en _) (by rw [List.nil_append, ← List.map_append]; exact fz_ens _) rfl) (q_build rfl rfl rfl) ?_)), trivial⟩
     change AU _ _ _ _ _ _ _ _
     refine yS 14 ?_; refine yD ?_
     exact weak_scrub' rfl (zz4 (zz1 trivial)) ⟨rfl, rfl, rfl, rfl, rfl, rfl, rfl, rfl, rfl, cgLess, rfl, rfl, trivial⟩
    refine zl ?_
    change AU _ _ _ _ _ _ _ _
    refine au_take 10 rfl (by kernel_rfl) (by kernel_rfl) rfl (wi_from hN (l := sinceE vs os) (f := enC) rfl rfl rfl (k + 1) rfl (by omega) (fun _ => rfl) rfl rfl rfl rfl) ?_
    refine yL 2 ?_
    refine au_take 4 rfl (by kernel_rfl) (by kernel_rfl) rfl (wi_to hN (l := sinceE vs os) (f := enC) rfl rfl rfl k rfl (by omega) (fun _ => rfl) rfl rfl rfl rfl) ?_
    refine au_all [5] (by kernel_rfl) rfl ⟨.inr (.inr (nw_append_own hN rfl rfl rfl rfl (by simp) rfl rfl (all_okE okE_en _) (by simp; omega) rfl rfl rfl rfl ?_)), trivial⟩
    change AU _ _ _ _ _ _ _ _
    refine au_all [11] (by kernel_rfl) rfl ⟨.inr (.inr (nw_append_own hN rfl rfl rfl rfl (by simp) rfl rfl (all_okE okE_en _) (by simp; omega) rfl rfl rfl rfl ?_)), trivial⟩
    change AU _ _ _ _ _ _ _ _
    refine au_all [12] (by kernel_rfl) rfl ⟨.inr (.inr (nw_weak hN rfl rfl rfl rfl rfl (weak_frow 81 4 rfl rfl (by simp) (by rw [List.nil_append, ← List.map_append]; exact all_okE okE_en _) (by rw [List.nil_append, ← List.map_append]; exact fz_ens _) rfl) (q_build rfl rfl rfl) ?_)), trivial⟩
    change AU _ _ _ _ _ _ _ _
    refine yS 14 ?_; refine yD ?_
    exact weak_scrub' rfl (zz4 (zz1 trivial)) ⟨rfl, rfl, rfl, rfl, rfl, rfl, rfl, rfl, rfl, cgLess, rfl, rfl, trivial⟩
   ·
    refine zl ?_
    change AU _ _ _ _ _ _ _ _
    refine au_take 4 rfl (by kernel_rfl) (by kernel_rfl) rfl (wi_to hN (l := sinceE vs os) (f := enC) rfl rfl rfl k rfl (by omega) (fun _ => rfl) rfl rfl rfl rfl) ?_
    refine au_all [0, 7, 13] (by kernel_rfl) rfl ⟨.inr (.inr (nw_bslice0 hN rfl rfl rfl rfl rfl rfl rfl ?_)), .inl (ao_py rfl ?_), .inr (.inr (nw_alloc1 hN rfl rfl rfl rfl rfl rfl rfl rfl ?_)), trivial⟩
    ·
     change AU _ _ _ _ _ _ _ _
     refine au_all [5, 7, 13] (by kernel_rfl) rfl ⟨.inr (.inr (nw_append_own hN rfl rfl rfl rfl (by simp) rfl rfl (all_okE okE_en _) (by simp; omega) rfl rfl rfl rfl ?_)), .inl (ao_py rfl ?_), .inr (.inr (nw_alloc hN rfl rfl rfl rfl rfl rfl rfl ?_)), trivial⟩
     ·
      change AU _ _ _ _ _ _ _ _
      refine au_all [7, 13] (by kernel_rfl) rfl ⟨.inl (ao_py rfl ?_), .inr (.inr (nw_alloc hN rfl rfl rfl rfl rfl rfl rfl ?_)), trivial⟩
      ·
       refine zl ?_
       change AU _ _ _ _ _ _ _ _
       refine au_take 10 rfl (by kernel_rfl) (by kernel_rfl) rfl (wi_from hN (l := sinceE vs os) (f := enC) rfl rfl rfl (k + 1) rfl (by omega) (fun _ => rfl) rfl rfl rfl rfl) ?_
       refine au_all [11, 13] (by kernel_rfl) rfl ⟨.inr (.inr (nw_append_own hN rfl rfl rfl rfl (by simp) rfl rfl (all_okE okE_en _) (by simp; omega) rfl rfl rfl rfl ?_)), .inr (.inr (nw_alloc hN rfl rfl rfl rfl rfl rfl rfl ?_)), trivial⟩
       ·
        change AU _ _ _ _ _ _ _ _
        refine au_all [12, 13] (by kernel_rfl) rfl ⟨.inr (.inr (nw_weak hN rfl rfl rfl rfl rfl (weak_frow 81 4 rfl rfl (by simp) (by rw [List.nil_append, ← List.map_append]; exact all_okE okE_en _) (by rw [List.nil_append, ← List.map_append]; exact fz_ens _) rfl) (q_build rfl rfl rfl) ?_)), .inr (.inr (nw_alloc hN rfl rfl rfl rfl rfl rfl rfl ?_)), trivial⟩
        ·
         change AU _ _ _ _ _ _ _ _
         refine au_all [13] (by kernel_rfl) rfl ⟨.inr (.inr (nw_alloc hN rfl rfl rfl rfl rfl rfl rfl ?_)), trivial⟩
         change AU _ _ _ _ _ _ _ _
         refine yS 14 ?_; refine yD ?_
         exact weak_scrub' rfl (zz4 (zz1 trivial)) ⟨rfl, rfl, rfl, rfl, rfl, rfl, rfl, rfl, rfl, cgLess, rfl, rfl, trivial⟩
        change AU _ _ _ _ _ _ _ _
        refine au_all [12] (by kernel_rfl) rfl ⟨.inr (.inr (nw_weak hN rfl rfl rfl rfl rfl (weak_frow 81 4 rfl rfl (by simp) (by rw [List.nil_append, ← List.map_append]; exact all_okE okE_en _) (by rw [List.nil_append, ← List.map_append]; exact fz_ens _) rfl) (q_build rfl rfl rfl) ?_)), trivial⟩
        change AU _ _ _ _ _ _ _ _
        refine yS 14 ?_; refine yD ?_
        exact weak_scrub' rfl (zz4 (zz1 trivial)) ⟨rfl, rfl, rfl, rfl, rfl, rfl, rfl, rfl, rfl, cgLess, rfl, rfl, trivial⟩
       change AU _ _ _ _ _ _ _ _
       refine au_all [11] (by kernel_rfl) rfl ⟨.inr (.inr (nw_append_own hN rfl rfl rfl rfl (by simp) rfl rfl (all_okE okE_en _) (by simp; omega) rfl rfl rfl rfl ?_)), trivial⟩
       change AU _ _ _ _ _ _ _ _
       refine au_all [12] (by kernel_rfl) rfl ⟨.inr (.inr (nw_weak hN rfl rfl rfl rfl rfl (weak_frow 81 4 rfl rfl (by simp) (by rw [List.nil_append, ← List.map_append]; exact all_okE okE_en _) (by rw [List.nil_append, ← List.map_append]; exact fz_ens _) rfl) (q_build rfl rfl rfl) ?_)), trivial⟩
       change AU _ _ _ _ _ _ _ _
       refine yS 14 ?_; refine yD ?_
       exact weak_scrub' rfl (zz4 (zz1 trivial)) ⟨rfl, rfl, rfl, rfl, rfl, rfl, rfl, rfl, rfl, cgLess, rfl, rfl, trivial⟩
      change AU _ _ _ _ _ _ _ _
      refine yL 7 ?_
      refine au_take 10 rfl (by kernel_rfl) (by kernel_rfl) rfl (wi_from hN (l := sinceE vs os) (f := enC) rfl rfl rfl (k + 1) rfl (by omega) (fun _ => rfl) rfl rfl rfl rfl) ?_
      refine au_all [11] (by kernel_rfl) rfl ⟨.inr (.inr (nw_append_own hN rfl rfl rfl rfl (by simp) rfl rfl (all_okE okE_en _) (by simp; omega) rfl rfl rfl rfl ?_)), trivial⟩
      change AU _ _ _ _ _ _ _ _
      refine au_all [12] (by kernel_rfl) rfl ⟨.inr (.inr (nw_weak hN rfl rfl rfl rfl rfl (weak_frow 81 4 rfl rfl (by simp) (by rw [List.nil_append, ← List.map_append]; exact all_okE okE_en _) (by rw [List.nil_append, ← List.map_append]; exact fz_ens _) rfl) (q_build rfl rfl rfl) ?_)), trivial⟩
      change AU _ _ _ _ _ _ _ _
      refine yS 14 ?_; refine yD ?_
      exact weak_scrub' rfl (zz4 (zz1 trivial)) ⟨rfl, rfl, rfl, rfl, rfl, rfl, rfl, rfl, rfl, cgLess, rfl, rfl, trivial⟩
     ·
      refine zl ?_
      change AU _ _ _ _ _ _ _ _
      refine au_take 10 rfl (by kernel_rfl) (by kernel_rfl) rfl (wi_from hN (l := sinceE vs os) (f := enC) rfl rfl rfl (k + 1) rfl (by omega) (fun _ => rfl) rfl rfl rfl rfl) ?_
      refine au_all [5, 13] (by kernel_rfl) rfl ⟨.inr (.inr (nw_append_own hN rfl rfl rfl rfl (by simp) rfl rfl (all_okE okE_en _) (by simp; omega) rfl rfl rfl rfl ?_)), .inr (.inr (nw_alloc hN rfl rfl rfl rfl rfl rfl rfl ?_)), trivial⟩
      ·
       change AU _ _ _ _ _ _ _ _
       refine au_all [11, 13] (by kernel_rfl) rfl ⟨.inr (.inr (nw_append_own hN rfl rfl rfl rfl (by simp) rfl rfl (all_okE okE_en _) (by simp; omega) rfl rfl rfl rfl ?_)), .inr (.inr (nw_alloc hN rfl rfl rfl rfl rfl rfl rfl ?_)), trivial⟩
       ·
        change AU _ _ _ _ _ _ _ _
        refine au_all [12, 13] (by kernel_rfl) rfl ⟨.inr (.inr (nw_weak hN rfl rfl rfl rfl rfl (weak_frow 81 4 rfl rfl (by simp) (by rw [List.nil_append, ← List.map_append]; exact all_okE okE_en _) (by rw [List.nil_append, ← List.map_append]; exact fz_ens _) rfl) (q_build rfl rfl rfl) ?_)), .inr (.inr (nw_alloc hN rfl rfl rfl rfl rfl rfl rfl ?_)), trivial⟩
        ·
         change AU _ _ _ _ _ _ _ _
         refine au_all [13] (by kernel_rfl) rfl ⟨.inr (.inr (nw_alloc hN rfl rfl rfl rfl rfl rfl rfl ?_)), trivial⟩
         change AU _ _ _ _ _ _ _ _
         refine yS 14 ?_; refine yD ?_
         exact weak_scrub' rfl (zz4 (zz1 trivial)) ⟨rfl, rfl, rfl, rfl, rfl, rfl, rfl, rfl, rfl, cgLess, rfl, rfl, trivial⟩
        change AU _ _ _ _ _ _ _ _
        refine au_all [12] (by kernel_rfl) rfl ⟨.inr (.inr (nw_weak hN rfl rfl rfl rfl rfl (weak_frow 81 4 rfl rfl (by simp) (by rw [List.nil_append, ← List.map_append]; exact all_okE okE_en _) (by rw [List.nil_append, ← List.map_append]; exact fz_ens _) rfl) (q_build rfl rfl rfl) ?_)), trivial⟩
        change AU _ _ _ _ _ _ _ _
        refine yS 14 ?_; refine yD ?_
        exact weak_scrub' rfl (zz4 (zz1 trivial)) ⟨rfl, rfl, rfl, rfl, rfl, rfl, rfl, rfl, rfl, cgLess, rfl, rfl, trivial⟩
       change AU _ _ _ _ _ _ _ _
       refine au_all [11] (by kernel_rfl) rfl ⟨.inr (.inr (nw_append_own hN rfl rfl rfl rfl (by simp) rfl rfl (all_okE okE_en _) (by simp; omega) rfl rfl rfl rfl ?_)), trivial⟩
       change AU _ _ _ _ _ _ _ _
       refine au_all [12] (by kernel_rfl) rfl ⟨.inr (.inr (nw_weak hN rfl rfl rfl rfl rfl (weak_frow 81 4 rfl rfl (by simp) (by rw [List.nil_append, ← List.map_append]; exact all_okE okE_en _) (by rw [List.nil_append, ← List.map_append]; exact fz_ens _) rfl) (q_build rfl rfl rfl) ?_)), trivial⟩
       change AU _ _ _ _ _ _ _ _
       refine yS 14 ?_; refine yD ?_
       exact weak_scrub' rfl (zz4 (zz1 trivial)) ⟨rfl, rfl, rfl, rfl, rfl, rfl, rfl, rfl, rfl, cgLess, rfl, rfl, trivial⟩
      change AU _ _ _ _ _ _ _ _
      refine au_all [5] (by kernel_rfl) rfl ⟨.inr (.inr (nw_append_own hN rfl rfl rfl rfl (by simp) rfl rfl (all_okE okE_en _) (by simp; omega) rfl rfl rfl rfl ?_)), trivial⟩
      change AU _ _ _ _ _ _ _ _
      refine au_all [11] (by kernel_rfl) rfl ⟨.inr (.inr (nw_append_own hN rfl rfl rfl rfl (by simp) rfl rfl (all_okE okE_en _) (by simp; omega) rfl rfl rfl rfl ?_)), trivial⟩
      change AU _ _ _ _ _ _ _ _
      refine au_all [12] (by kernel_rfl) rfl ⟨.inr (.inr (nw_weak hN rfl rfl rfl rfl rfl (weak_frow 81 4 rfl rfl (by simp) (by rw [List.nil_append, ← List.map_append]; exact all_okE okE_en _) (by rw [List.nil_append, ← List.map_append]; exact fz_ens _) rfl) (q_build rfl rfl rfl) ?_)), trivial⟩
      change AU _ _ _ _ _ _ _ _
      refine yS 14 ?_; refine yD ?_
      exact weak_scrub' rfl (zz4 (zz1 trivial)) ⟨rfl, rfl, rfl, rfl, rfl, rfl, rfl, rfl, rfl, cgLess, rfl, rfl, trivial⟩
     change AU _ _ _ _ _ _ _ _
     refine au_all [5, 7] (by kernel_rfl) rfl ⟨.inr (.inr (nw_append_own hN rfl rfl rfl rfl (by simp) rfl rfl (all_okE okE_en _) (by simp; omega) rfl rfl rfl rfl ?_)), .inl (ao_py rfl ?_), trivial⟩
     ·
      change AU _ _ _ _ _ _ _ _
      refine yL 7 ?_
      refine au_take 10 rfl (by kernel_rfl) (by kernel_rfl) rfl (wi_from hN (l := sinceE vs os) (f := enC) rfl rfl rfl (k + 1) rfl (by omega) (fun _ => rfl) rfl rfl rfl rfl) ?_
      refine au_all [11] (by kernel_rfl) rfl ⟨.inr (.inr (nw_append_own hN rfl rfl rfl rfl (by simp) rfl rfl (all_okE okE_en _) (by simp; omega) rfl rfl rfl rfl ?_)), trivial⟩
      change AU _ _ _ _ _ _ _ _
      refine au_all [12] (by kernel_rfl) rfl ⟨.inr (.inr (nw_weak hN rfl rfl rfl rfl rfl (weak_frow 81 4 rfl rfl (by simp) (by rw [List.nil_append, ← List.map_append]; exact all_okE okE_en _) (by rw [List.nil_append, ← List.map_append]; exact fz_ens _) rfl) (q_build rfl rfl rfl) ?_)), trivial⟩
      change AU _ _ _ _ _ _ _ _
      refine yS 14 ?_; refine yD ?_
      exact weak_scrub' rfl (zz4 (zz1 trivial)) ⟨rfl, rfl, rfl, rfl, rfl, rfl, rfl, rfl, rfl, cgLess, rfl, rfl, trivial⟩
     refine zl ?_
     change AU _ _ _ _ _ _ _ _
     refine au_take 10 rfl (by kernel_rfl) (by kernel_rfl) rfl (wi_from hN (l := sinceE vs os) (f := enC) rfl rfl rfl (k + 1) rfl (by omega) (fun _ => rfl) rfl rfl rfl rfl) ?_
     refine au_all [5] (by kernel_rfl) rfl ⟨.inr (.inr (nw_append_own hN rfl rfl rfl rfl (by simp) rfl rfl (all_okE okE_en _) (by simp; omega) rfl rfl rfl rfl ?_)), trivial⟩
     change AU _ _ _ _ _ _ _ _
     refine au_all [11] (by kernel_rfl) rfl ⟨.inr (.inr (nw_append_own hN rfl rfl rfl rfl (by simp) rfl rfl (all_okE okE_en _) (by simp; omega) rfl rfl rfl rfl ?_)), trivial⟩
     change AU _ _ _ _ _ _ _ _
     refine au_all [12] (by kernel_rfl) rfl ⟨.inr (.inr (nw_weak hN rfl rfl rfl rfl rfl (weak_frow 81 4 rfl rfl (by simp) (by rw [List.nil_append, ← List.map_append]; exact all_okE okE_en _) (by rw [List.nil_append, ← List.map_append]; exact fz_ens _) rfl) (q_build rfl rfl rfl) ?_)), trivial⟩
     change AU _ _ _ _ _ _ _ _
     refine yS 14 ?_; refine yD ?_
     exact weak_scrub' rfl (zz4 (zz1 trivial)) ⟨rfl, rfl, rfl, rfl, rfl, rfl, rfl, rfl, rfl, cgLess, rfl, rfl, trivial⟩
    ·
     refine zl ?_
     change AU _ _ _ _ _ _ _ _
     refine au_take 10 rfl (by kernel_rfl) (by kernel_rfl) rfl (wi_from hN (l := sinceE vs os) (f := enC) rfl rfl rfl (k + 1) rfl (by omega) (fun _ => rfl) rfl rfl rfl rfl) ?_
     refine au_all [0, 13] (by kernel_rfl) rfl ⟨.inr (.inr (nw_bslice0 hN rfl rfl rfl rfl rfl rfl rfl ?_)), .inr (.inr (nw_alloc1 hN rfl rfl rfl rfl rfl rfl rfl rfl ?_)), trivial⟩
     ·
      change AU _ _ _ _ _ _ _ _
      refine au_all [5, 13] (by kernel_rfl) rfl ⟨.inr (.inr (nw_append_own hN rfl rfl rfl rfl (by simp) rfl rfl (all_okE okE_en _) (by simp; omega) rfl rfl rfl rfl ?_)), .inr (.inr (nw_alloc hN rfl rfl rfl rfl rfl rfl rfl ?_)), trivial⟩
      ·
       change AU _ _ _ _ _ _ _ _
       refine au_all [11, 13] (by kernel_rfl) rfl ⟨.inr (.inr (nw_append_own hN rfl rfl rfl rfl (by simp) rfl rfl (all_okE okE_en _) (by simp; omega) rfl rfl rfl rfl ?_)), .inr (.inr (nw_alloc hN rfl rfl rfl rfl rfl rfl rfl ?_)), trivial⟩
       ·
        change AU _ _ _ _ _ _ _ _
        refine au_all [12, 13] (by kernel_rfl) rfl ⟨.inr (.inr (nw_weak hN rfl rfl rfl rfl rfl (weak_frow 81 4 rfl rfl (by simp) (by rw [List.nil_append, ← List.map_append]; exact all_okE okE_en _) (by rw [List.nil_append, ← List.map_append]; exact fz_ens _) rfl) (q_build rfl rfl rfl) ?_)), .inr (.inr (nw_alloc hN rfl rfl rfl rfl rfl rfl rfl ?_)), trivial⟩
        ·
         change AU _ _ _ _ _ _ _ _
         refine au_all [13] (by kernel_rfl) rfl ⟨.inr (.inr (nw_alloc hN rfl rfl rfl rfl rfl rfl rfl ?_)), trivial⟩
         change AU _ _ _ _ _ _ _ _
         refine yS 14 ?_; refine yD ?_
         exact weak_scrub' rfl (zz4 (zz1 trivial)) ⟨rfl, rfl, rfl, rfl, rfl, rfl, rfl, rfl, rfl, cgLess, rfl, rfl, trivial⟩
        change AU _ _ _ _ _ _ _ _
        refine au_all [12] (by kernel_rfl) rfl ⟨.inr (.inr (nw_weak hN rfl rfl rfl rfl rfl (weak_frow 81 4 rfl rfl (by simp) (by rw [List.nil_append, ← List.map_append]; exact all_okE okE_en _) (by rw [List.nil_append, ← List.map_append]; exact fz_ens _) rfl) (q_build rfl rfl rfl) ?_)), trivial⟩
        change AU _ _ _ _ _ _ _ _
        refine yS 14 ?_; refine yD ?_
        exact weak_scrub' rfl (zz4 (zz1 trivial)) ⟨rfl, rfl, rfl, rfl, rfl, rfl, rfl, rfl, rfl, cgLess, rfl, rfl, trivial⟩
       change AU _ _ _ _ _ _ _ _
       refine au_all [11] (by kernel_rfl) rfl ⟨.inr (.inr (nw_append_own hN rfl rfl rfl rfl (by simp) rfl rfl (all_okE okE_en _) (by simp; omega) rfl rfl rfl rfl ?_)), trivial⟩
       change AU _ _ _ _ _ _ _ _
       refine au_all [12] (by kernel_rfl) rfl ⟨.inr (.inr (nw_weak hN rfl rfl rfl rfl rfl (weak_frow 81 4 rfl rfl (by simp) (by rw [List.nil_append, ← List.map_append]; exact all_okE okE_en _) (by rw [List.nil_append, ← List.map_append]; exact fz_ens _) rfl) (q_build rfl rfl rfl) ?_)), trivial⟩
       change AU _ _ _ _ _ _ _ _
       refine yS 14 ?_; refine yD ?_
       exact weak_scrub' rfl (zz4 (zz1 trivial)) ⟨rfl, rfl, rfl, rfl, rfl, rfl, rfl, rfl, rfl, cgLess, rfl, rfl, trivial⟩
      change AU _ _ _ _ _ _ _ _
      refine au_all [5] (by kernel_rfl) rfl ⟨.inr (.inr (nw_append_own hN rfl rfl rfl rfl (by simp) rfl rfl (all_okE okE_en _) (by simp; omega) rfl rfl rfl rfl ?_)), trivial⟩
      change AU _ _ _ _ _ _ _ _
      refine au_all [11] (by kernel_rfl) rfl ⟨.inr (.inr (nw_append_own hN rfl rfl rfl rfl (by simp) rfl rfl (all_okE okE_en _) (by simp; omega) rfl rfl rfl rfl ?_)), trivial⟩
      change AU _ _ _ _ _ _ _ _
      refine au_all [12] (by kernel_rfl) rfl ⟨.inr (.inr (nw_weak hN rfl rfl rfl rfl rfl (weak_frow 81 4 rfl rfl (by simp) (by rw [List.nil_append, ← List.map_append]; exact all_okE okE_en _) (by rw [List.nil_append, ← List.map_append]; exact fz_ens _) rfl) (q_build rfl rfl rfl) ?_)), trivial⟩
      change AU _ _ _ _ _ _ _ _
      refine yS 14 ?_; refine yD ?_
      exact weak_scrub' rfl (zz4 (zz1 trivial)) ⟨rfl, rfl, rfl, rfl, rfl, rfl, rfl, rfl, rfl, cgLess, rfl, rfl, trivial⟩
     change AU _ _ _ _ _ _ _ _
     refine au_all [0] (by kernel_rfl) rfl ⟨.inr (.inr (nw_bslice0 hN rfl rfl rfl rfl rfl rfl rfl ?_)), trivial⟩
     change AU _ _ _ _ _ _ _ _
     refine au_all [5] (by kernel_rfl) rfl ⟨.inr (.inr (nw_append_own hN rfl rfl rfl rfl (by simp) rfl rfl (all_okE okE_en _) (by simp; omega) rfl rfl rfl rfl ?_)), trivial⟩
     change AU _ _ _ _ _ _ _ _
     refine au_all [11] (by kernel_rfl) rfl ⟨.inr (.inr (nw_append_own hN rfl rfl rfl rfl (by simp) rfl rfl (all_okE okE_en _) (by simp; omega) rfl rfl rfl rfl ?_)), trivial⟩
     change AU _ _ _ _ _ _ _ _
     refine au_all [12] (by kernel_rfl) rfl ⟨.inr (.inr (nw_weak hN rfl rfl rfl rfl rfl (weak_frow 81 6 rfl rfl (by simp) (by rw [List.nil_append, ← List.map_append]; exact all_okE okE_en _) (by rw [List.nil_append, ← List.map_append]; exact fz_ens _) rfl) (q_build rfl rfl rfl) ?_)), trivial⟩
     change AU _ _ _ _ _ _ _ _
     refine yS 14 ?_; refine yD ?_
     exact weak_scrub' rfl (zz4 (zz1 trivial)) ⟨rfl, rfl, rfl, rfl, rfl, rfl, rfl, rfl, rfl, cgLess, rfl, rfl, trivial⟩
    change AU _ _ _ _ _ _ _ _
    refine au_all [0, 7] (by kernel_rfl) rfl ⟨.inr (.inr (nw_bslice0 hN rfl rfl rfl rfl rfl rfl rfl ?_)), .inl (ao_py rfl ?_), trivial⟩
    ·
     change AU _ _ _ _ _ _ _ _
     refine au_all [5, 7] (by kernel_rfl) rfl ⟨.inr (.inr (nw_append_own hN rfl rfl rfl rfl (by simp) rfl rfl (all_okE okE_en _) (by simp; omega) rfl rfl rfl rfl ?_)), .inl (ao_py rfl ?_), trivial⟩
     ·
      change AU _ _ _ _ _ _ _ _
      refine yL 7 ?_
      refine au_take 10 rfl (by kernel_rfl) (by kernel_rfl) rfl (wi_from hN (l := sinceE vs os) (f := enC) rfl rfl rfl (k + 1) rfl (by omega) (fun _ => rfl) rfl rfl rfl rfl) ?_
      refine au_all [11] (by kernel_rfl) rfl ⟨.inr (.inr (nw_append_own hN rfl rfl rfl rfl (by simp) rfl rfl (all_okE okE_en _) (by simp; omega) rfl rfl rfl rfl ?_)), trivial⟩
      change AU _ _ _ _ _ _ _ _
      refine au_all [12] (by kernel_rfl) rfl ⟨.inr (.inr (nw_weak hN rfl rfl rfl rfl rfl (weak_frow 81 6 rfl rfl (by simp) (by rw [List.nil_append, ← List.map_append]; exact all_okE okE_en _) (by rw [List.nil_append, ← List.map_append]; exact fz_ens _) rfl) (q_build rfl rfl rfl) ?_)), trivial⟩
      change AU _ _ _ _ _ _ _ _
      refine yS 14 ?_; refine yD ?_
      exact weak_scrub' rfl (zz4 (zz1 trivial)) ⟨rfl, rfl, rfl, rfl, rfl, rfl, rfl, rfl, rfl, cgLess, rfl, rfl, trivial⟩
     refine zl ?_
     change AU _ _ _ _ _ _ _ _
     refine au_take 10 rfl (by kernel_rfl) (by kernel_rfl) rfl (wi_from hN (l := sinceE vs os) (f := enC) rfl rfl rfl (k + 1) rfl (by omega) (fun _ => rfl) rfl rfl rfl rfl) ?_
     refine au_all [5] (by kernel_rfl) rfl ⟨.inr (.inr (nw_append_own hN rfl rfl rfl rfl (by simp) rfl rfl (all_okE okE_en _) (by simp; omega) rfl rfl rfl rfl ?_)), trivial⟩
     change AU _ _ _ _ _ _ _ _
     refine au_all [11] (by kernel_rfl) rfl ⟨.inr (.inr (nw_append_own hN rfl rfl rfl rfl (by simp) rfl rfl (all_okE okE_en _) (by simp; omega) rfl rfl rfl rfl ?_)), trivial⟩
     change AU _ _ _ _ _ _ _ _
     refine au_all [12] (by kernel_rfl) rfl ⟨.inr (.inr (nw_weak hN rfl rfl rfl rfl rfl (weak_frow 81 6 rfl rfl (by simp) (by rw [List.nil_append, ← List.map_append]; exact all_okE okE_en _) (by rw [List.nil_append, ← List.map_append]; exact fz_ens _) rfl) (q_build rfl rfl rfl) ?_)), trivial⟩
     change AU _ _ _ _ _ _ _ _
     refine yS 14 ?_; refine yD ?_
     exact weak_scrub' rfl (zz4 (zz1 trivial)) ⟨rfl, rfl, rfl, rfl, rfl, rfl, rfl, rfl, rfl, cgLess, rfl, rfl, trivial⟩
    refine zl ?_
    change AU _ _ _ _ _ _ _ _
    refine au_take 10 rfl (by kernel_rfl) (by kernel_rfl) rfl (wi_from hN (l := sinceE vs os) (f := enC) rfl rfl rfl (k + 1) rfl (by omega) (fun _ => rfl) rfl rfl rfl rfl) ?_
    refine au_all [0] (by kernel_rfl) rfl ⟨.inr (.inr (nw_bslice0 hN rfl rfl rfl rfl rfl rfl rfl ?_)), trivial⟩
    change AU _ _ _ _ _ _ _ _
    refine au_all [5] (by kernel_rfl) rfl ⟨.inr (.inr (nw_append_own hN rfl rfl rfl rfl (by simp) rfl rfl (all_okE okE_en _) (by simp; omega) rfl rfl rfl rfl ?_)), trivial⟩
    change AU _ _ _ _ _ _ _ _
    refine au_all [11] (by kernel_rfl) rfl ⟨.inr (.inr (nw_append_own hN rfl rfl rfl rfl (by simp) rfl rfl (all_okE okE_en _) (by simp; omega) rfl rfl rfl rfl ?_)), trivial⟩
    change AU _ _ _ _ _ _ _ _
    refine au_all [12] (by kernel_rfl) rfl ⟨.inr (.inr (nw_weak hN rfl rfl rfl rfl rfl (weak_frow 81 6 rfl rfl (by simp) (by rw [List.nil_append, ← List.map_append]; exact all_okE okE_en _) (by rw [List.nil_append, ← List.map_append]; exact fz_ens _) rfl) (q_build rfl rfl rfl) ?_)), trivial⟩
    change AU _ _ _ _ _ _ _ _
    refine yS 14 ?_; refine yD ?_
    exact weak_scrub' rfl (zz4 (zz1 trivial)) ⟨rfl, rfl, rfl, rfl, rfl, rfl, rfl, rfl, rfl, cgLess, rfl, rfl, trivial⟩
   ·
    refine zl ?_
    change AU _ _ _ _ _ _ _ _
    refine au_take 10 rfl (by kernel_rfl) (by kernel_rfl) rfl (wi_from hN (l := sinceE vs os) (f := enC) rfl rfl rfl (k + 1) rfl (by omega) (fun _ => rfl) rfl rfl rfl rfl) ?_
    refine au_all [0, 2, 13] (by kernel_rfl) rfl ⟨.inr (.inr (nw_bslice0 hN rfl rfl rfl rfl rfl rfl rfl ?_)), .inl (ao_py rfl ?_), .inr (.inr (nw_alloc1 hN rfl rfl rfl rfl rfl rfl rfl rfl ?_)), trivial⟩
    ·
     change AU _ _ _ _ _ _ _ _
     refine au_all [2, 13] (by kernel_rfl) rfl ⟨.inl (ao_py rfl ?_), .inr (.inr (nw_alloc hN rfl rfl rfl rfl rfl rfl rfl ?_)), trivial⟩
     ·
      refine zl ?_
      change AU _ _ _ _ _ _ _ _
      refine au_take 4 rfl (by kernel_rfl) (by kernel_rfl) rfl (wi_to hN (l := sinceE vs os) (f := enC) rfl rfl rfl k rfl (by omega) (fun _ => rfl) rfl rfl rfl rfl) ?_
      refine au_all [5, 13] (by kernel_rfl) rfl ⟨.inr (.inr (nw_append_own hN rfl rfl rfl rfl (by simp) rfl rfl (all_okE okE_en _) (by simp; omega) rfl rfl rfl rfl ?_)), .inr (.inr (nw_alloc hN rfl rfl rfl rfl rfl rfl rfl ?_)), trivial⟩
      ·
       change AU _ _ _ _ _ _ _ _
       refine au_all [11, 13] (by kernel_rfl) rfl ⟨.inr (.inr (nw_append_own hN rfl rfl rfl rfl (by simp) rfl rfl (all_okE okE_en _) (by simp; omega) rfl rfl rfl rfl ?_)), .inr (.inr (nw_alloc hN rfl rfl rfl rfl rfl rfl rfl ?_)), trivial⟩
       ·
        change AU _ _ _ _ _ _ _ _
        refine au_all [12, 13] (by kernel_rfl) rfl ⟨.inr (.inr (nw_weak hN rfl rfl rfl rfl rfl (weak_frow 81 4 rfl rfl (by simp) (by rw [List.nil_append, ← List.map_append]; exact all_okE okE_en _) (by rw [List.nil_append, ← List.map_append]; exact fz_ens _) rfl) (q_build rfl rfl rfl) ?_)), .inr (.inr (nw_alloc hN rfl rfl rfl rfl rfl rfl rfl ?_)), trivial⟩
        ·
         change AU _ _ _ _ _ _ _ _
         refine au_all [13] (by kernel_rfl) rfl ⟨.inr (.inr (nw_alloc hN rfl rfl rfl rfl rfl rfl rfl ?_)), trivial⟩
         change AU _ _ _ _ _ _ _ _
         refine yS 14 ?_; refine yD ?_
         exact weak_scrub' rfl (zz4 (zz1 trivial)) ⟨rfl, rfl, rfl, rfl, rfl, rfl, rfl, rfl, rfl, cgLess, rfl, rfl, trivial⟩
        change AU _ _ _ _ _ _ _ _
        refine au_all [12] (by kernel_rfl) rfl ⟨.inr (.inr (nw_weak hN rfl rfl rfl rfl rfl (weak_frow 81 4 rfl rfl (by simp) (by rw [List.nil_append, ← List.map_append]; exact all_okE okE_en _) (by rw [List.nil_append, ← List.map_append]; exact fz_ens _) rfl) (q_build rfl rfl rfl) ?_)), trivial⟩
        change AU _ _ _ _ _ _ _ _
        refine yS 14 ?_; refine yD ?_
        exact weak_scrub' rfl (zz4 (zz1 trivial)) ⟨rfl, rfl, rfl, rfl, rfl, rfl, rfl, rfl, rfl, cgLess, rfl, rfl, trivial⟩
       change AU _ _ _ _ _ _ _ _
       refine au_all [11] (by kernel_rfl) rfl ⟨.inr (.inr (nw_append_own hN rfl rfl rfl rfl (by simp) rfl rfl (all_okE okE_en _) (by simp; omega) rfl rfl rfl rfl ?_)), trivial⟩
       change AU _ _ _ _ _ _ _ _
       refine au_all [12] (by kernel_rfl) rfl ⟨.inr (.inr (nw_weak hN rfl rfl rfl rfl rfl (weak_frow 81 4 rfl rfl (by simp) (by rw [List.nil_append, ← List.map_append]; exact all_okE okE_en _) (by rw [List.nil_append, ← List.map_append]; exact fz_ens _) rfl) (q_build rfl rfl rfl) ?_)), trivial⟩
       change AU _ _ _ _ _ _ _ _
       refine yS 14 ?_; refine yD ?_
       exact weak_scrub' rfl (zz4 (zz1 trivial)) ⟨rfl, rfl, rfl, rfl, rfl, rfl, rfl, rfl, rfl, cgLess, rfl, rfl, trivial⟩
      change AU _ _ _ _ _ _ _ _
      refine au_all [5] (by kernel_rfl) rfl ⟨.inr (.inr (nw_append_own hN rfl rfl rfl rfl (by simp) rfl rfl (all_okE okE_en _) (by simp; omega) rfl rfl rfl rfl ?_)), trivial⟩
      change AU _ _ _ _ _ _ _ _
      refine au_all [11] (by kernel_rfl) rfl ⟨.inr (.inr (nw_append_own hN rfl rfl rfl rfl (by simp) rfl rfl (all_okE okE_en _) (by simp; omega) rfl rfl rfl rfl ?_)), trivial⟩
      change AU _ _ _ _ _ _ _ _
      refine au_all [12] (by kernel_rfl) rfl ⟨.inr (.inr (nw_weak hN rfl rfl rfl rfl rfl (weak_frow 81 4 rfl rfl (by simp) (by rw [List.nil_append, ← List.map_append]; exact all_okE okE_en _) (by rw [List.nil_append, ← List.map_append]; exact fz_ens _) rfl) (q_build rfl rfl rfl) ?_)), trivial⟩
      change AU _ _ _ _ _ _ _ _
      refine yS 14 ?_; refine yD ?_
      exact weak_scrub' rfl (zz4 (zz1 trivial)) ⟨rfl, rfl, rfl, rfl, rfl, rfl, rfl, rfl, rfl, cgLess, rfl, rfl, trivial⟩
     change AU _ _ _ _ _ _ _ _
     refine yL 2 ?_
     refine au_take 4 rfl (by kernel_rfl) (by kernel_rfl) rfl (wi_to hN (l := sinceE vs os) (f := enC) rfl rfl rfl k rfl (by omega) (fun _ => rfl) rfl rfl rfl rfl) ?_
     refine au_all [5] (by kernel_rfl) rfl ⟨.inr (.inr (nw_append_own hN rfl rfl rfl rfl (by simp) rfl rfl (all_okE okE_en _) (by simp; omega) rfl rfl rfl rfl ?_)), trivial⟩
     change AU _ _ _ _ _ _ _ _
     refine au_all [11] (by kernel_rfl) rfl ⟨.inr (.inr (nw_append_own hN rfl rfl rfl rfl (by simp) rfl rfl (all_okE okE_en _) (by simp; omega) rfl rfl rfl rfl ?_)), trivial⟩
     change AU _ _ _ _ _ _ _ _
     refine au_all [12] (by kernel_rfl) rfl ⟨.inr (.inr (nw_weak hN rfl rfl rfl rfl rfl (weak_frow 81 4 rfl rfl (by simp) (by rw [List.nil_append, ← List.map_append]; exact all_okE okE_en _) (by rw [List.nil_append, ← List.map_append]; exact fz_ens _) rfl) (q_build rfl rfl rfl) ?_)), trivial⟩
     change AU _ _ _ _ _ _ _ _
     refine yS 14 ?_; refine yD ?_
     exact weak_scrub' rfl (zz4 (zz1 trivial)) ⟨rfl, rfl, rfl, rfl, rfl, rfl, rfl, rfl, rfl, cgLess, rfl, rfl, trivial⟩
    ·
     refine zl ?_
     change AU _ _ _ _ _ _ _ _
     refine au_take 4 rfl (by kernel_rfl) (by kernel_rfl) rfl (wi_to hN (l := sinceE vs os) (f := enC) rfl rfl rfl k rfl (by omega) (fun _ => rfl) rfl rfl rfl rfl) ?_
     refine au_all [0, 13] (by kernel_rfl) rfl ⟨.inr (.inr (nw_bslice0 hN rfl rfl rfl rfl rfl rfl rfl ?_)), .inr (.inr (nw_alloc1 hN rfl rfl rfl rfl rfl rfl rfl rfl ?_)), trivial⟩
     ·
      change AU _ _ _ _ _ _ _ _
      refine au_all [5, 13] (by kernel_rfl) rfl ⟨.inr (.inr (nw_append_own hN rfl rfl rfl rfl (by simp) rfl rfl (all_okE okE_en _) (by simp; omega) rfl rfl rfl rfl ?_)), .inr (.inr (nw_alloc hN rfl rfl rfl rfl rfl rfl rfl ?_)), trivial⟩
      ·
       change AU _ _ _ _ _ _ _ _
       refine au_all [11, 13] (by kernel_rfl) rfl ⟨.inr (.inr (nw_append_own hN rfl rfl rfl rfl (by simp) rfl rfl (all_okE okE_en _) (by simp; omega) rfl rfl rfl rfl ?_)), .inr (.inr (nw_alloc hN rfl rfl rfl rfl rfl rfl rfl ?_)), trivial⟩
       ·
        change AU _ _ _ _ _ _ _ _
        refine au_all [12, 13] (by kernel_rfl) rfl ⟨.inr (.inr (nw_weak hN rfl rfl rfl rfl rfl (weak_frow 81 4 rfl rfl (by simp) (by rw [List.nil_append, ← List.map_append]; exact all_okE okE_en _) (by rw [List.nil_append, ← List.map_append]; exact fz_ens _) rfl) (q_build rfl rfl rfl) ?_)), .inr (.inr (nw_alloc hN rfl rfl rfl rfl rfl rfl rfl ?_)), trivial⟩
        ·
         change AU _ _ _ _ _ _ _ _
         refine au_all [13] (by kernel_rfl) rfl ⟨.inr (.inr (nw_alloc hN rfl rfl rfl rfl rfl rfl rfl ?_)), trivial⟩
         change AU _ _ _ _ _ _ _ _
         refine yS 14 ?_; refine yD ?_
         exact weak_scrub' rfl (zz4 (zz1 trivial)) ⟨rfl, rfl, rfl, rfl, rfl, rfl, rfl, rfl, rfl, cgLess, rfl, rfl, trivial⟩
        change AU _ _ _ _ _ _ _ _
        refine au_all [12] (by kernel_rfl) rfl ⟨.inr (.inr (nw_weak hN rfl rfl rfl rfl rfl (weak_frow 81 4 rfl rfl (by simp) (by rw [List.nil_append, ← List.map_append]; exact all_okE okE_en _) (by rw [List.nil_append, ← List.map_append]; exact fz_ens _) rfl) (q_build rfl rfl rfl) ?_)), trivial⟩
        change AU _ _ _ _ _ _ _ _
        refine yS 14 ?_; refine yD ?_
        exact weak_scrub' rfl (zz4 (zz1 trivial)) ⟨rfl, rfl, rfl, rfl, rfl, rfl, rfl, rfl, rfl, cgLess, rfl, rfl, trivial⟩
       change AU _ _ _ _ _ _ _ _
       refine au_all [11] (by kernel_rfl) rfl ⟨.inr (.inr (nw_append_own hN rfl rfl rfl rfl (by simp) rfl rfl (all_okE okE_en _) (by simp; omega) rfl rfl rfl rfl ?_)), trivial⟩
       change AU _ _ _ _ _ _ _ _
       refine au_all [12] (by kernel_rfl) rfl ⟨.inr (.inr (nw_weak hN rfl rfl rfl rfl rfl (weak_frow 81 4 rfl rfl (by simp) (by rw [List.nil_append, ← List.map_append]; exact all_okE okE_en _) (by rw [List.nil_append, ← List.map_append]; exact fz_ens _) rfl) (q_build rfl rfl rfl) ?_)), trivial⟩
       change AU _ _ _ _ _ _ _ _
       refine yS 14 ?_; refine yD ?_
       exact weak_scrub' rfl (zz4 (zz1 trivial)) ⟨rfl, rfl, rfl, rfl, rfl, rfl, rfl, rfl, rfl, cgLess, rfl, rfl, trivial⟩
      change AU _ _ _ _ _ _ _ _
      refine au_all [5] (by kernel_rfl) rfl ⟨.inr (.inr (nw_append_own hN rfl rfl rfl rfl (by simp) rfl rfl (all_okE okE_en _) (by simp; omega) rfl rfl rfl rfl ?_)), trivial⟩
      change AU _ _ _ _ _ _ _ _
      refine au_all [11] (by kernel_rfl) rfl ⟨.inr (.inr (nw_append_own hN rfl rfl rfl rfl (by simp) rfl rfl (all_okE okE_en _) (by simp; omega) rfl rfl rfl rfl ?_)), trivial⟩
      change AU _ _ _ _ _ _ _ _
      refine au_all [12] (by kernel_rfl) rfl ⟨.inr (.inr (nw_weak hN rfl rfl rfl rfl rfl (weak_frow 81 4 rfl rfl (by simp) (by rw [List.nil_append, ← List.map_append]; exact all_okE okE_en _) (by rw [List.nil_append, ← List.map_append]; exact fz_ens _) rfl) (q_build rfl rfl rfl) ?_)), trivial⟩
      change AU _ _ _ _ _ _ _ _
      refine yS 14 ?_; refine yD ?_
      exact weak_scrub' rfl (zz4 (zz1 trivial)) ⟨rfl, rfl, rfl, rfl, rfl, rfl, rfl, rfl, rfl, cgLess, rfl, rfl, trivial⟩
     change AU _ _ _ _ _ _ _ _
     refine au_all [0] (by kernel_rfl) rfl ⟨.inr (.inr (nw_bslice0 hN rfl rfl rfl rfl rfl rfl rfl ?_)), trivial⟩
     change AU _ _ _ _ _ _ _ _
     refine au_all [5] (by kernel_rfl) rfl ⟨.inr (.inr (nw_append_own hN rfl rfl rfl rfl (by simp) rfl rfl (all_okE okE_en _) (by simp; omega) rfl rfl rfl rfl ?_)), trivial⟩
     change AU _ _ _ _ _ _ _ _
     refine au_all [11] (by kernel_rfl) rfl ⟨.inr (.inr (nw_append_own hN rfl rfl rfl rfl (by simp) rfl rfl (all_okE okE_en _) (by simp; omega) rfl rfl rfl rfl ?_)), trivial⟩
     change AU _ _ _ _ _ _ _ _
     refine au_all [12] (by kernel_rfl) rfl ⟨.inr (.inr (nw_weak hN rfl rfl rfl rfl rfl (weak_frow 81 6 rfl rfl (by simp) (by rw [List.nil_append, ← List.map_append]; exact all_okE okE_en _) (by rw [List.nil_append, ← List.map_append]; exact fz_ens _) rfl) (q_build rfl rfl rfl) ?_)), trivial⟩
     change AU _ _ _ _ _ _ _ _
     refine yS 14 ?_; refine yD ?_
     exact weak_scrub' rfl (zz4 (zz1 trivial)) ⟨rfl, rfl, rfl, rfl, rfl, rfl, rfl, rfl, rfl, cgLess, rfl, rfl, trivial⟩
    change AU _ _ _ _ _ _ _ _
    refine au_all [0, 2] (by kernel_rfl) rfl ⟨.inr (.inr (nw_bslice0 hN rfl rfl rfl rfl rfl rfl rfl ?_)), .inl (ao_py rfl ?_), trivial⟩
    ·
     change AU _ _ _ _ _ _ _ _
     refine yL 2 ?_
     refine au_take 4 rfl (by kernel_rfl) (by kernel_rfl) rfl (wi_to hN (l := sinceE vs os) (f := enC) rfl rfl rfl k rfl (by omega) (fun _ => rfl) rfl rfl rfl rfl) ?_
     refine au_all [5] (by kernel_rfl) rfl ⟨.inr (.inr (nw_append_own hN rfl rfl rfl rfl (by simp) rfl rfl (all_okE okE_en _) (by simp; omega) rfl rfl rfl rfl ?_)), trivial⟩
     change AU _ _ _ _ _ _ _ _
     refine au_all [11] (by kernel_rfl) rfl ⟨.inr (.inr (nw_append_own hN rfl rfl rfl rfl (by simp) rfl rfl (all_okE okE_en _) (by simp; omega) rfl rfl rfl rfl ?_)), trivial⟩
     change AU _ _ _ _ _ _ _ _
     refine au_all [12] (by kernel_rfl) rfl ⟨.inr (.inr (nw_weak hN rfl rfl rfl rfl rfl (weak_frow 81 6 rfl rfl (by simp) (by rw [List.nil_append, ← List.map_append]; exact all_okE okE_en _) (by rw [List.nil_append, ← List.map_append]; exact fz_ens _) rfl) (q_build rfl rfl rfl) ?_)), trivial⟩
     change AU _ _ _ _ _ _ _ _
     refine yS 14 ?_; refine yD ?_
     exact weak_scrub' rfl (zz4 (zz1 trivial)) ⟨rfl, rfl, rfl, rfl, rfl, rfl, rfl, rfl, rfl, cgLess, rfl, rfl, trivial⟩
    refine zl ?_
    change AU _ _ _ _ _ _ _ _
    refine au_take 4 rfl (by kernel_rfl) (by kernel_rfl) rfl (wi_to hN (l := sinceE vs os) (f := enC) rfl rfl rfl k rfl (by omega) (fun _ => rfl) rfl rfl rfl rfl) ?_
    refine au_all [0] (by kernel_rfl) rfl ⟨.inr (.inr (nw_bslice0 hN rfl rfl rfl rfl rfl rfl rfl ?_)), trivial⟩
    change AU _ _ _ _ _ _ _ _
    refine au_all [5] (by kernel_rfl) rfl ⟨.inr (.inr (nw_append_own hN rfl rfl rfl rfl (by simp) rfl rfl (all_okE okE_en _) (by simp; omega) rfl rfl rfl rfl ?_)), trivial⟩
    change AU _ _ _ _ _ _ _ _
    refine au_all [11] (by kernel_rfl) rfl ⟨.inr (.inr (nw_append_own hN rfl rfl rfl rfl (by simp) rfl rfl (all_okE okE_en _) (by simp; omega) rfl rfl rfl rfl ?_)), trivial⟩
    change AU _ _ _ _ _ _ _ _
    refine au_all [12] (by kernel_rfl) rfl ⟨.inr (.inr (nw_weak hN rfl rfl rfl rfl rfl (weak_frow 81 6 rfl rfl (by simp) (by rw [List.nil_append, ← List.map_append]; exact all_okE okE_en _) (by rw [List.nil_append, ← List.map_append]; exact fz_ens _) rfl) (q_build rfl rfl rfl) ?_)), trivial⟩
    change AU _ _ _ _ _ _ _ _
    refine yS 14 ?_; refine yD ?_
    exact weak_scrub' rfl (zz4 (zz1 trivial)) ⟨rfl, rfl, rfl, rfl, rfl, rfl, rfl, rfl, rfl, cgLess, rfl, rfl, trivial⟩
   change AU _ _ _ _ _ _ _ _
   refine au_all [0, 2, 7] (by kernel_rfl) rfl ⟨.inr (.inr (nw_bslice0 hN rfl rfl rfl rfl rfl rfl rfl ?_)), .inl (ao_py rfl ?_), .inl (ao_py rfl ?_), trivial⟩
   ·
    change AU _ _ _ _ _ _ _ _
    refine au_all [2, 7] (by kernel_rfl) rfl ⟨.inl (ao_py rfl ?_), .inl (ao_py rfl ?_), trivial⟩
    ·
     refine zl ?_
     change AU _ _ _ _ _ _ _ _
     refine au_take 4 rfl (by kernel_rfl) (by kernel_rfl) rfl (wi_to hN (l := sinceE vs os) (f := enC) rfl rfl rfl k rfl (by omega) (fun _ => rfl) rfl rfl rfl rfl) ?_
     refine au_all [5, 7] (by kernel_rfl) rfl ⟨.inr (.inr (nw_append_own hN rfl rfl rfl rfl (by simp) rfl rfl (all_okE okE_en _) (by simp; omega) rfl rfl rfl rfl ?_)), .inl (ao_py rfl ?_), trivial⟩
     ·
      change AU _ _ _ _ _ _ _ _
      refine yL 7 ?_
      refine au_take 10 rfl (by kernel_rfl) (by kernel_rfl) rfl (wi_from hN (l := sinceE vs os) (f := enC) rfl rfl rfl (k + 1) rfl (by omega) (fun _ => rfl) rfl rfl rfl rfl) ?_
      refine au_all [11] (by kernel_rfl) rfl ⟨.inr (.inr (nw_append_own hN rfl rfl rfl rfl (by simp) rfl rfl (all_okE okE_en _) (by simp; omega) rfl rfl rfl rfl ?_)), trivial⟩
      change AU _ _ _ _ _ _ _ _
      refine au_all [12] (by kernel_rfl) rfl ⟨.inr (.inr (nw_weak hN rfl rfl rfl rfl rfl (weak_frow 81 6 rfl rfl (by simp) (by rw [List.nil_append, ← List.map_append]; exact all_okE okE_en _) (by rw [List.nil_append, ← List.map_append]; exact fz_ens _) rfl) (q_build rfl rfl rfl) ?_)), trivial⟩
      change AU _ _ _ _ _ _ _ _
      refine yS 14 ?_; refine yD ?_
      exact weak_scrub' rfl (zz4 (zz1 trivial)) ⟨rfl, rfl, rfl, rfl, rfl, rfl, rfl, rfl, rfl, cgLess, rfl, rfl, trivial⟩
     refine zl ?_
     change AU _ _ _ _ _ _ _ _
     refine au_take 10 rfl (by kernel_rfl) (by kernel_rfl) rfl (wi_from hN (l := sinceE vs os) (f := enC) rfl rfl rfl (k + 1) rfl (by omega) (fun _ => rfl) rfl rfl rfl rfl) ?_
     refine au_all [5] (by kernel_rfl) rfl ⟨.inr (.inr (nw_append_own hN rfl rfl rfl rfl (by simp) rfl rfl (all_okE okE_en _) (by simp; omega) rfl rfl rfl rfl ?_)), trivial⟩
     change AU _ _ _ _ _ _ _ _
     refine au_all [11] (by kernel_rfl) rfl ⟨.inr (.inr (nw_append_own hN rfl rfl rfl rfl (by simp) rfl rfl (all_okE okE_en _) (by simp; omega) rfl rfl rfl rfl ?_)), trivial⟩
     change AU _ _ _ _ _ _ _ _
     refine au_all [12] (by kernel_rfl) rfl ⟨.inr (.inr (nw_weak hN rfl rfl rfl rfl rfl (weak_frow 81 6 rfl rfl (by simp) (by rw [List.nil_append, ← List.map_append]; exact all_okE okE_en _) (by rw [List.nil_append, ← List.map_append]; exact fz_ens _) rfl) (q_build rfl rfl rfl) ?_)), trivial⟩
     change AU _ _ _ _ _ _ _ _
     refine yS 14 ?_; refine yD ?_
     exact weak_scrub' rfl (zz4 (zz1 trivial)) ⟨rfl, rfl, rfl, rfl, rfl, rfl, rfl, rfl, rfl, cgLess, rfl, rfl, trivial⟩
    refine zl ?_
    change AU _ _ _ _ _ _ _ _
    refine au_take 10 rfl (by kernel_rfl) (by kernel_rfl) rfl (wi_from hN (l := sinceE vs os) (f := enC) rfl rfl rfl (k + 1) rfl (by omega) (fun _ => rfl) rfl rfl rfl rfl) ?_
    refine yL 2 ?_
    refine au_take 4 rfl (by kernel_rfl) (by kernel_rfl) rfl (wi_to hN (l := sinceE vs os) (f := enC) rfl rfl rfl k rfl (by omega) (fun _ => rfl) rfl rfl rfl rfl) ?_
    refine au_all [5] (by kernel_rfl) rfl ⟨.inr (.inr (nw_append_own hN rfl rfl rfl rfl (by simp) rfl rfl (all_okE okE_en _) (by simp; omega) rfl rfl rfl rfl ?_)), trivial⟩
    change AU _ _ _ _ _ _ _ _
    refine au_all [11] (by kernel_rfl) rfl ⟨.inr (.inr (nw_append_own hN rfl rfl rfl rfl (by simp) rfl rfl (all_okE okE_en _) (by simp; omega) rfl rfl rfl rfl ?_)), trivial⟩
    change AU _ _ _ _ _ _ _ _
    refine au_all [12] (by kernel_rfl) rfl ⟨.inr (.inr (nw_weak hN rfl rfl rfl rfl rfl (weak_frow 81 6 rfl rfl (by simp) (by rw [List.nil_append, ← List.map_append]; exact all_okE okE_en _) (by rw [List.nil_append, ← List.map_append]; exact fz_ens _) rfl) (q_build rfl rfl rfl) ?_)), trivial⟩
    change AU _ _ _ _ _ _ _ _
    refine yS 14 ?_; refine yD ?_
    exact weak_scrub' rfl (zz4 (zz1 trivial)) ⟨rfl, rfl, rfl, rfl, rfl, rfl, rfl, rfl, rfl, cgLess, rfl, rfl, trivial⟩
   ·
    refine zl ?_
    change AU _ _ _ _ _ _ _ _
    refine au_take 4 rfl (by kernel_rfl) (by kernel_rfl) rfl (wi_to hN (l := sinceE vs os) (f := enC) rfl rfl rfl k rfl (by omega) (fun _ => rfl) rfl rfl rfl rfl) ?_
    refine au_all [0, 7] (by kernel_rfl) rfl ⟨.inr (.inr (nw_bslice0 hN rfl rfl rfl rfl rfl rfl rfl ?_)), .inl (ao_py rfl ?_), trivial⟩
    ·
     change AU _ _ _ _ _ _ _ _
     refine au_all [5, 7] (by kernel_rfl) rfl ⟨.inr (.inr (nw_append_own hN rfl rfl rfl rfl (by simp) rfl rfl (all_okE okE_en _) (by simp; omega) rfl rfl rfl rfl ?_)), .inl (ao_py rfl ?_), trivial⟩
     ·
      change AU _ _ _ _ _ _ _ _
      refine yL 7 ?_
      refine au_take 10 rfl (by kernel_rfl) (by kernel_rfl) rfl (wi_from hN (l := sinceE vs os) (f := enC) rfl rfl rfl (k + 1) rfl (by omega) (fun _ => rfl) rfl rfl rfl rfl) ?_
      refine au_all [11] (by kernel_rfl) rfl ⟨.inr (.inr (nw_append_own hN rfl rfl rfl rfl (by simp) rfl rfl (all_okE okE_en _) (by simp; omega) rfl rfl rfl rfl ?_)), trivial⟩
      change AU _ _ _ _ _ _ _ _
      refine au_all [12] (by kernel_rfl) rfl ⟨.inr (.inr (nw_weak hN rfl rfl rfl rfl rfl (weak_frow 81 6 rfl rfl (by simp) (by rw [List.nil_append, ← List.map_append]; exact all_okE okE_en _) (by rw [List.nil_append, ← List.map_append]; exact fz_ens _) rfl) (q_build rfl rfl rfl) ?_)), trivial⟩
      change AU _ _ _ _ _ _ _ _
      refine yS 14 ?_; refine yD ?_
      exact weak_scrub' rfl (zz4 (zz1 trivial)) ⟨rfl, rfl, rfl, rfl, rfl, rfl, rfl, rfl, rfl, cgLess, rfl, rfl, trivial⟩
     refine zl ?_
     change AU _ _ _ _ _ _ _ _
     refine au_take 10 rfl (by kernel_rfl) (by kernel_rfl) rfl (wi_from hN (l := sinceE vs os) (f := enC) rfl rfl rfl (k + 1) rfl (by omega) (fun _ => rfl) rfl rfl rfl rfl) ?_
     refine au_all [5] (by kernel_rfl) rfl ⟨.inr (.inr (nw_append_own hN rfl rfl rfl rfl (by simp) rfl rfl (all_okE okE_en _) (by simp; omega) rfl rfl rfl rfl ?_)), trivial⟩
     change AU _ _ _ _ _ _ _ _
     refine au_all [11] (by kernel_rfl) rfl ⟨.inr (.inr (nw_append_own hN rfl rfl rfl rfl (by simp) rfl rfl (all_okE okE_en _) (by simp; omega) rfl rfl rfl rfl ?_)), trivial⟩
     change AU _ _ _ _ _ _ _ _
     refine au_all [12] (by kernel_rfl) rfl ⟨.inr (.inr (nw_weak hN rfl rfl rfl rfl rfl (weak_frow 81 6 rfl rfl (by simp) (by rw [List.nil_append, ← List.map_append]; exact all_okE okE_en _) (by rw [List.nil_append, ← List.map_append]; exact fz_ens _) rfl) (q_build rfl rfl rfl) ?_)), trivial⟩
     change AU _ _ _ _ _ _ _ _
     refine yS 14 ?_; refine yD ?_
     exact weak_scrub' rfl (zz4 (zz1 trivial)) ⟨rfl, rfl, rfl, rfl, rfl, rfl, rfl, rfl, rfl, cgLess, rfl, rfl, trivial⟩
    refine zl ?_
    change AU _ _ _ _ _ _ _ _
    refine au_take 10 rfl (by kernel_rfl) (by kernel_rfl) rfl (wi_from hN (l := sinceE vs os) (f := enC) rfl rfl rfl (k + 1) rfl (by omega) (fun _ => rfl) rfl rfl rfl rfl) ?_
    refine au_all [0] (by kernel_rfl) rfl ⟨.inr (.inr (nw_bslice0 hN rfl rfl rfl rfl rfl rfl rfl ?_)), trivial⟩
    change AU _ _ _ _ _ _ _ _
    refine au_all [5] (by kernel_rfl) rfl ⟨.inr (.inr (nw_append_own hN rfl rfl rfl rfl (by simp) rfl rfl (all_okE okE_en _) (by simp; omega) rfl rfl rfl rfl ?_)), trivial⟩
    change AU _ _ _ _ _ _ _ _
    refine au_all [11] (by kernel_rfl) rfl ⟨.inr (.inr (nw_append_own hN rfl rfl rfl rfl (by simp) rfl rfl (all_okE okE_en _) (by simp; omega) rfl rfl rfl rfl ?_)), trivial⟩
    change AU _ _ _ _ _ _ _ _
    refine au_all [12] (by kernel_rfl) rfl ⟨.inr (.inr (nw_weak hN rfl rfl rfl rfl rfl (weak_frow 81 6 rfl rfl (by simp) (by rw [List.nil_append, ← List.map_append]; exact all_okE okE_en _) (by rw [List.nil_append, ← List.map_append]; exact fz_ens _) rfl) (q_build rfl rfl rfl) ?_)), trivial⟩
    change AU _ _ _ _ _ _ _ _
    refine yS 14 ?_; refine yD ?_
    exact weak_scrub' rfl (zz4 (zz1 trivial)) ⟨rfl, rfl, rfl, rfl, rfl, rfl, rfl, rfl, rfl, cgLess, rfl, rfl, trivial⟩
   refine zl ?_
   change AU _ _ _ _ _ _ _ _
   refine au_take 10 rfl (by kernel_rfl) (by kernel_rfl) rfl (wi_from hN (l := sinceE vs os) (f := enC) rfl rfl rfl (k + 1) rfl (by omega) (fun _ => rfl) rfl rfl rfl rfl) ?_
   refine au_all [0, 2] (by kernel_rfl) rfl ⟨.inr (.inr (nw_bslice0 hN rfl rfl rfl rfl rfl rfl rfl ?_)), .inl (ao_py rfl ?_), trivial⟩
   ·
    change AU _ _ _ _ _ _ _ _
    refine yL 2 ?_
    refine au_take 4 rfl (by kernel_rfl) (by kernel_rfl) rfl (wi_to hN (l := sinceE vs os) (f := enC) rfl rfl rfl k rfl (by omega) (fun _ => rfl) rfl rfl rfl rfl) ?_
    refine au_all [5] (by kernel_rfl) rfl ⟨.inr (.inr (nw_append_own hN rfl rfl rfl rfl (by simp) rfl rfl (all_okE okE_en _) (by simp; omega) rfl rfl rfl rfl ?_)), trivial⟩
    change AU _ _ _ _ _ _ _ _
    refine au_all [11] (by kernel_rfl) rfl ⟨.inr (.inr (nw_append_own hN rfl rfl rfl rfl (by simp) rfl rfl (all_okE okE_en _) (by simp; omega) rfl rfl rfl rfl ?_)), trivial⟩
    change AU _ _ _ _ _ _ _ _
    refine au_all [12] (by kernel_rfl) rfl ⟨.inr (.inr (nw_weak hN rfl rfl rfl rfl rfl (weak_frow 81 6 rfl rfl (by simp) (by rw [List.nil_append, ← List.map_append]; exact all_okE okE_en _) (by rw [List.nil_append, ← List.map_append]; exact fz_ens _) rfl) (q_build rfl rfl rfl) ?_)), trivial⟩
    change AU _ _ _ _ _ _ _ _
    refine yS 14 ?_; refine yD ?_
    exact weak_scrub' rfl (zz4 (zz1 trivial)) ⟨rfl, rfl, rfl, rfl, rfl, rfl, rfl, rfl, rfl, cgLess, rfl, rfl, trivial⟩
   refine zl ?_
   change AU _ _ _ _ _ _ _ _
   refine au_take 4 rfl (by kernel_rfl) (by kernel_rfl) rfl (wi_to hN (l := sinceE vs os) (f := enC) rfl rfl rfl k rfl (by omega) (fun _ => rfl) rfl rfl rfl rfl) ?_
   refine au_all [0] (by kernel_rfl) rfl ⟨.inr (.inr (nw_bslice0 hN rfl rfl rfl rfl rfl rfl rfl ?_)), trivial⟩
   change AU _ _ _ _ _ _ _ _
   refine au_all [5] (by kernel_rfl) rfl ⟨.inr (.inr (nw_append_own hN rfl rfl rfl rfl (by simp) rfl rfl (all_okE okE_en _) (by simp; omega) rfl rfl rfl rfl ?_)), trivial⟩
   change AU _ _ _ _ _ _ _ _
   refine au_all [11] (by kernel_rfl) rfl ⟨.inr (.inr (nw_append_own hN rfl rfl rfl rfl (by simp) rfl rfl (all_okE okE_en _) (by simp; omega) rfl rfl rfl rfl ?_)), trivial⟩
   change AU _ _ _ _ _ _ _ _
   refine au_all [12] (by kernel_rfl) rfl ⟨.inr (.inr (nw_weak hN rfl rfl rfl rfl rfl (weak_frow 81 6 rfl rfl (by simp) (by rw [List.nil_append, ← List.map_append]; exact all_okE okE_en _) (by rw [List.nil_append, ← List.map_append]; exact fz_ens _) rfl) (q_build rfl rfl rfl) ?_)), trivial⟩
   change AU _ _ _ _ _ _ _ _
   refine yS 14 ?_; refine yD ?_
   exact weak_scrub' rfl (zz4 (zz1 trivial)) ⟨rfl, rfl, rfl, rfl, rfl, rfl, rfl, rfl, rfl, cgLess, rfl, rfl, trivial⟩
  refine c_cut (⟨[(3, .ptr 1 0), (5, .ptr 2 0), (6, .ptr 3 0), (10, i64 (k : Nat)), (12, .ptr 6 0), (13, i64 0)], [(1, .var 26 (valL (regV os))), (2, .var 26 (valL (regV (sinceE vs os)))), (3, .var 26 (valL (regV (mergedE os vs)))), (6, .var 26 (valL (regV (mergedE os (lessE (sinceE vs os) k)))))], 7⟩) ?_ ?_
  ·
   refine awp_takeN 10 rfl (by kernel_rfl) (by kernel_rfl) (fun _ _ h => h) ?_
   refine au_all [0, 1, 2, 7] (by kernel_rfl) rfl ⟨.inl (ao_py rfl ?_), .inl (ao_py rfl ?_), .inl (ao_py rfl ?_), .inr (.inr (nw_alloc hN rfl rfl rfl rfl rfl rfl rfl ?_)), trivial⟩
   ·
    refine zp (q_call rkind_fc rfl rfl rfl) ?_
    change AU _ _ _ _ _ _ _ _
    refine au_all [1, 2, 7] (by kernel_rfl) rfl ⟨.inl (ao_py rfl ?_), .inl (ao_py rfl ?_), .inr (.inr (nw_alloc hN rfl rfl rfl rfl rfl rfl rfl ?_)), trivial⟩
    ·
     refine zl ?_
     change AU _ _ _ _ _ _ _ _
     refine au_all [2, 7] (by kernel_rfl) rfl ⟨.inl (ao_py rfl ?_), .inr (.inr (nw_alloc hN rfl rfl rfl rfl rfl rfl rfl ?_)), trivial⟩
     ·
      refine zl ?_
      change AU _ _ _ _ _ _ _ _
      refine au_all [3, 7] (by kernel_rfl) rfl ⟨.inl (ao_py rfl ?_), .inr (.inr (nw_alloc hN rfl rfl rfl rfl rfl rfl rfl ?_)), trivial⟩
      ·
       refine zp (q_call (joinReg_fc os (lessE (sinceE vs os) k) ho (less_ok hs k) lo (Nat.le_trans (less_len _ k) ls)) rfl rfl rfl) ?_
       change AU _ _ _ _ _ _ _ _
       refine yM 4 ?_; refine yX 5 ?_; refine yX 6 ?_
       refine au_all [7] (by kernel_rfl) rfl ⟨.inr (.inr (nw_alloc hN rfl rfl rfl rfl rfl rfl rfl ?_)), trivial⟩
       change AU _ _ _ _ _ _ _ _
       refine yS 8 ?_; refine yA 9 ?_; refine yD ?_
       exact weak_scrub' rfl (zz4 (zz2 trivial)) ⟨rfl, rfl, rfl, rfl, rfl, rfl, rfl, rfl, rfl, rfl, rfl, rfl, trivial⟩
      change AU _ _ _ _ _ _ _ _
      refine yP 3 rfl (q_call (joinReg_fc os (lessE (sinceE vs os) k) ho (less_ok hs k) lo (Nat.le_trans (less_len _ k) ls)) rfl rfl rfl) ?_
      refine yM 4 ?_; refine yX 5 ?_; refine yX 6 ?_; refine yS 8 ?_; refine yA 9 ?_; refine yD ?_
      exact weak_scrub' rfl (zz4 (zz2 trivial)) ⟨rfl, rfl, rfl, rfl, rfl, rfl, rfl, rfl, rfl, rfl, rfl, rfl, trivial⟩
     change AU _ _ _ _ _ _ _ _
     refine yL 2 ?_
     refine yP 3 rfl (q_call (joinReg_fc os (lessE (sinceE vs os) k) ho (less_ok hs k) lo (Nat.le_trans (less_len _ k) ls)) rfl rfl rfl) ?_
     refine yM 4 ?_; refine yX 5 ?_; refine yX 6 ?_; refine yS 8 ?_; refine yA 9 ?_; refine yD ?_
     exact weak_scrub' rfl (zz4 (zz2 trivial)) ⟨rfl, rfl, rfl, rfl, rfl, rfl, rfl, rfl, rfl, rfl, rfl, rfl, trivial⟩
    ·
     refine zl ?_
     change AU _ _ _ _ _ _ _ _
     refine au_all [1, 7] (by kernel_rfl) rfl ⟨.inl (ao_py rfl ?_), .inr (.inr (nw_alloc hN rfl rfl rfl rfl rfl rfl rfl ?_)), trivial⟩
     ·
      refine zl ?_
      change AU _ _ _ _ _ _ _ _
      refine au_all [3, 7] (by kernel_rfl) rfl ⟨.inl (ao_py rfl ?_), .inr (.inr (nw_alloc hN rfl rfl rfl rfl rfl rfl rfl ?_)), trivial⟩
      ·
       refine zp (q_call (joinReg_fc os (lessE (sinceE vs os) k) ho (less_ok hs k) lo (Nat.le_trans (less_len _ k) ls)) rfl rfl rfl) ?_
       change AU _ _ _ _ _ _ _ _
       refine yM 4 ?_; refine yX 5 ?_; refine yX 6 ?_
       refine au_all [7] (by kernel_rfl) rfl ⟨.inr (.inr (nw_alloc hN rfl rfl rfl rfl rfl rfl rfl ?_)), trivial⟩
       change AU _ _ _ _ _ _ _ _
       refine yS 8 ?_; refine yA 9 ?_; refine yD ?_
       exact weak_scrub' rfl (zz4 (zz2 trivial)) ⟨rfl, rfl, rfl, rfl, rfl, rfl, rfl, rfl, rfl, rfl, rfl, rfl, trivial⟩
      change AU _ _ _ _ _ _ _ _
      refine yP 3 rfl (q_call (joinReg_fc os (lessE (sinceE vs os) k) ho (less_ok hs k) lo (Nat.le_trans (less_len _ k) ls)) rfl rfl rfl) ?_
      refine yM 4 ?_; refine yX 5 ?_; refine yX 6 ?_; refine yS 8 ?_; refine yA 9 ?_; refine yD ?_
      exact weak_scrub' rfl (zz4 (zz2 trivial)) ⟨rfl, rfl, rfl, rfl, rfl, rfl, rfl, rfl, rfl, rfl, rfl, rfl, trivial⟩
     change AU _ _ _ _ _ _ _ _
     refine yL 1 ?_
     refine yP 3 rfl (q_call (joinReg_fc os (lessE (sinceE vs os) k) ho (less_ok hs k) lo (Nat.le_trans (less_len _ k) ls)) rfl rfl rfl) ?_
     refine yM 4 ?_; refine yX 5 ?_; refine yX 6 ?_; refine yS 8 ?_; refine yA 9 ?_; refine yD ?_
     exact weak_scrub' rfl (zz4 (zz2 trivial)) ⟨rfl, rfl, rfl, rfl, rfl, rfl, rfl, rfl, rfl, rfl, rfl, rfl, trivial⟩
    change AU _ _ _ _ _ _ _ _
    refine au_all [1, 2] (by kernel_rfl) rfl ⟨.inl (ao_py rfl ?_), .inl (ao_py rfl ?_), trivial⟩
    ·
     refine zl ?_
     change AU _ _ _ _ _ _ _ _
     refine yL 2 ?_
     refine yP 3 rfl (q_call (joinReg_fc os (lessE (sinceE vs os) k) ho (less_ok hs k) lo (Nat.le_trans (less_len _ k) ls)) rfl rfl rfl) ?_
     refine yM 4 ?_; refine yX 5 ?_; refine yX 6 ?_; refine yS 8 ?_; refine yA 9 ?_; refine yD ?_
     exact weak_scrub' rfl (zz4 (zz2 trivial)) ⟨rfl, rfl, rfl, rfl, rfl, rfl, rfl, rfl, rfl, rfl, rfl, rfl, trivial⟩
    refine zl ?_
    change AU _ _ _ _ _ _ _ _
    refine yL 1 ?_
    refine yP 3 rfl (q_call (joinReg_fc os (lessE (sinceE vs os) k) ho (less_ok hs k) lo (Nat.le_trans (less_len _ k) ls)) rfl rfl rfl) ?_
    refine yM 4 ?_; refine yX 5 ?_; refine yX 6 ?_; refine yS 8 ?_; refine yA 9 ?_; refine yD ?_
    exact weak_scrub' rfl (zz4 (zz2 trivial)) ⟨rfl, rfl, rfl, rfl, rfl, rfl, rfl, rfl, rfl, rfl, rfl, rfl, trivial⟩
   ·
    refine zl ?_
    change AU _ _ _ _ _ _ _ _
    refine au_all [0, 2, 7] (by kernel_rfl) rfl ⟨.inl (ao_py rfl ?_), .inl (ao_py rfl ?_), .inr (.inr (nw_alloc hN rfl rfl rfl rfl rfl rfl rfl ?_)), trivial⟩
    ·
     refine zp (q_call rkind_fc rfl rfl rfl) ?_
     change AU _ _ _ _ _ _ _ _
     refine au_all [2, 7] (by kernel_rfl) rfl ⟨.inl (ao_py rfl ?_), .inr (.inr (nw_alloc hN rfl rfl rfl rfl rfl rfl rfl ?_)), trivial⟩
     ·
      refine zl ?_
      change AU _ _ _ _ _ _ _ _
      refine au_all [3, 7] (by kernel_rfl) rfl ⟨.inl (ao_py rfl ?_), .inr (.inr (nw_alloc hN rfl rfl rfl rfl rfl rfl rfl ?_)), trivial⟩
      ·
       refine zp (q_call (joinReg_fc os (lessE (sinceE vs os) k) ho (less_ok hs k) lo (Nat.le_trans (less_len _ k) ls)) rfl rfl rfl) ?_
       change AU _ _ _ _ _ _ _ _
       refine yM 4 ?_; refine yX 5 ?_; refine yX 6 ?_
       refine au_all [7] (by kernel_rfl) rfl ⟨.inr (.inr (nw_alloc hN rfl rfl rfl rfl rfl rfl rfl ?_)), trivial⟩
       change AU _ _ _ _ _ _ _ _
       refine yS 8 ?_; refine yA 9 ?_; refine yD ?_
       exact weak_scrub' rfl (zz4 (zz2 trivial)) ⟨rfl, rfl, rfl, rfl, rfl, rfl, rfl, rfl, rfl, rfl, rfl, rfl, trivial⟩
      change AU _ _ _ _ _ _ _ _
      refine yP 3 rfl (q_call (joinReg_fc os (lessE (sinceE vs os) k) ho (less_ok hs k) lo (Nat.le_trans (less_len _ k) ls)) rfl rfl rfl) ?_
      refine yM 4 ?_; refine yX 5 ?_; refine yX 6 ?_; refine yS 8 ?_; refine yA 9 ?_; refine yD ?_
      exact weak_scrub' rfl (zz4 (zz2 trivial)) ⟨rfl, rfl, rfl, rfl, rfl, rfl, rfl, rfl, rfl, rfl, rfl, rfl, trivial⟩
     change AU _ _ _ _ _ _ _ _
     refine yL 2 ?_
     refine yP 3 rfl (q_call (joinReg_fc os (lessE (sinceE vs os) k) ho (less_ok hs k) lo (Nat.le_trans (less_len _ k) ls)) rfl rfl rfl) ?_
     refine yM 4 ?_; refine yX 5 ?_; refine yX 6 ?_; refine yS 8 ?_; refine yA 9 ?_; refine yD ?_
     exact weak_scrub' rfl (zz4 (zz2 trivial)) ⟨rfl, rfl, rfl, rfl, rfl, rfl, rfl, rfl, rfl, rfl, rfl, rfl, trivial⟩
    ·
     refine zl ?_
     change AU _ _ _ _ _ _ _ _
     refine au_all [0, 7] (by kernel_rfl) rfl ⟨.inl (ao_py rfl ?_), .inr (.inr (nw_alloc hN rfl rfl rfl rfl rfl rfl rfl ?_)), trivial⟩
     ·
      refine zp (q_call rkind_fc rfl rfl rfl) ?_
      change AU _ _ _ _ _ _ _ _
      refine au_all [3, 7] (by kernel_rfl) rfl ⟨.inl (ao_py rfl ?_), .inr (.inr (nw_alloc hN rfl rfl rfl rfl rfl rfl rfl ?_)), trivial⟩
      ·
       refine zp (q_call (joinReg_fc os (lessE (sinceE vs os) k) ho (less_ok hs k) lo (Nat.le_trans (less_len _ k) ls)) rfl rfl rfl) ?_
       change AU _ _ _ _ _ _ _ _
       refine yM 4 ?_; refine yX 5 ?_; refine yX 6 ?_
       refine au_all [7] (by kernel_rfl) rfl ⟨.inr (.inr (nw_alloc hN rfl rfl rfl rfl rfl rfl rfl ?_)), trivial⟩
       change AU _ _ _ _ _ _ _ _
       refine yS 8 ?_; refine yA 9 ?_; refine yD ?_
       exact weak_scrub' rfl (zz4 (zz2 trivial)) ⟨rfl, rfl, rfl, rfl, rfl, rfl, rfl, rfl, rfl, rfl, rfl, rfl, trivial⟩
      change AU _ _ _ _ _ _ _ _
      refine yP 3 rfl (q_call (joinReg_fc os (lessE (sinceE vs os) k) ho (less_ok hs k) lo (Nat.le_trans (less_len _ k) ls)) rfl rfl rfl) ?_
      refine yM 4 ?_; refine yX 5 ?_; refine yX 6 ?_; refine yS 8 ?_; refine yA 9 ?_; refine yD ?_
      exact weak_scrub' rfl (zz4 (zz2 trivial)) ⟨rfl, rfl, rfl, rfl, rfl, rfl, rfl, rfl, rfl, rfl, rfl, rfl, trivial⟩
     change AU _ _ _ _ _ _ _ _
     refine yP 0 rfl (q_call rkind_fc rfl rfl rfl) ?_
     refine yP 3 rfl (q_call (joinReg_fc os (lessE (sinceE vs os) k) ho (less_ok hs k) lo (Nat.le_trans (less_len _ k) ls)) rfl rfl rfl) ?_
     refine yM 4 ?_; refine yX 5 ?_; refine yX 6 ?_; refine yS 8 ?_; refine yA 9 ?_; refine yD ?_
     exact weak_scrub' rfl (zz4 (zz2 trivial)) ⟨rfl, rfl, rfl, rfl, rfl, rfl, rfl, rfl, rfl, rfl, rfl, rfl, trivial⟩
    change AU _ _ _ _ _ _ _ _
    refine au_all [0, 2] (by kernel_rfl) rfl ⟨.inl (ao_py rfl ?_), .inl (ao_py rfl ?_), trivial⟩
    ·
     refine zp (q_call rkind_fc rfl rfl rfl) ?_
     change AU _ _ _ _ _ _ _ _
     refine yL 2 ?_
     refine yP 3 rfl (q_call (joinReg_fc os (lessE (sinceE vs os) k) ho (less_ok hs k) lo (Nat.le_trans (less_len _ k) ls)) rfl rfl rfl) ?_
     refine yM 4 ?_; refine yX 5 ?_; refine yX 6 ?_; refine yS 8 ?_; refine yA 9 ?_; refine yD ?_
     exact weak_scrub' rfl (zz4 (zz2 trivial)) ⟨rfl, rfl, rfl, rfl, rfl, rfl, rfl, rfl, rfl, rfl, rfl, rfl, trivial⟩
    refine zl ?_
    change AU _ _ _ _ _ _ _ _
    refine yP 0 rfl (q_call rkind_fc rfl rfl rfl) ?_
    refine yP 3 rfl (q_call (joinReg_fc os (lessE (sinceE vs os) k) ho (less_ok hs k) lo (Nat.le_trans (less_len _ k) ls)) rfl rfl rfl) ?_
    refine yM 4 ?_; refine yX 5 ?_; refine yX 6 ?_; refine yS 8 ?_; refine yA 9 ?_; refine yD ?_
    exact weak_scrub' rfl (zz4 (zz2 trivial)) ⟨rfl, rfl, rfl, rfl, rfl, rfl, rfl, rfl, rfl, rfl, rfl, rfl, trivial⟩
   ·
    refine zl ?_
    change AU _ _ _ _ _ _ _ _
    refine au_all [0, 1, 7] (by kernel_rfl) rfl ⟨.inl (ao_py rfl ?_), .inl (ao_py rfl ?_), .inr (.inr (nw_alloc hN rfl rfl rfl rfl rfl rfl rfl ?_)), trivial⟩
    ·
     refine zp (q_call rkind_fc rfl rfl rfl) ?_
     change AU _ _ _ _ _ _ _ _
     refine au_all [1, 7] (by kernel_rfl) rfl ⟨.inl (ao_py rfl ?_), .inr (.inr (nw_alloc hN rfl rfl rfl rfl rfl rfl rfl ?_)), trivial⟩
     ·
      refine zl ?_
      change AU _ _ _ _ _ _ _ _
      refine au_all [3, 7] (by kernel_rfl) rfl ⟨.inl (ao_py rfl ?_), .inr (.inr (nw_alloc hN rfl rfl rfl rfl rfl rfl rfl ?_)), trivial⟩
      ·
       refine zp (q_call (joinReg_fc os (lessE (sinceE vs os) k) ho (less_ok hs k) lo (Nat.le_trans (less_len _ k) ls)) rfl rfl rfl) ?_
       change AU _ _ _ _ _ _ _ _
       refine yM 4 ?_; refine yX 5 ?_; refine yX 6 ?_
       refine au_all [7] (by kernel_rfl) rfl ⟨.inr (.inr (nw_alloc hN rfl rfl rfl rfl rfl rfl rfl ?_)), trivial⟩
       change AU _ _ _ _ _ _ _ _
       refine yS 8 ?_; refine yA 9 ?_; refine yD ?_
       exact weak_scrub' rfl (zz4 (zz2 trivial)) ⟨rfl, rfl, rfl, rfl, rfl, rfl, rfl, rfl, rfl, rfl, rfl, rfl, trivial⟩
      change AU _ _ _ _ _ _ _ _
      refine yP 3 rfl (q_call (joinReg_fc os (lessE (sinceE vs os) k) ho (less_ok hs k) lo (Nat.le_trans (less_len _ k) ls)) rfl rfl rfl) ?_
      refine yM 4 ?_; refine yX 5 ?_; refine yX 6 ?_; refine yS 8 ?_; refine yA 9 ?_; refine yD ?_
      exact weak_scrub' rfl (zz4 (zz2 trivial)) ⟨rfl, rfl, rfl, rfl, rfl, rfl, rfl, rfl, rfl, rfl, rfl, rfl, trivial⟩
     change AU _ _ _ _ _ _ _ _
     refine yL 1 ?_
     refine yP 3 rfl (q_call (joinReg_fc os (lessE (sinceE vs os) k) ho (less_ok hs k) lo (Nat.le_trans (less_len _ k) ls)) rfl rfl rfl) ?_
     refine yM 4 ?_; refine yX 5 ?_; refine yX 6 ?_; refine yS 8 ?_; refine yA 9 ?_; refine yD ?_
     exact weak_scrub' rfl (zz4 (zz2 trivial)) ⟨rfl, rfl, rfl, rfl, rfl, rfl, rfl, rfl, rfl, rfl, rfl, rfl, trivial⟩
    ·
     refine zl ?_
     change AU _ _ _ _ _ _ _ _
     refine au_all [0, 7] (by kernel_rfl) rfl ⟨.inl (ao_py rfl ?_), .inr (.inr (nw_alloc hN rfl rfl rfl rfl rfl rfl rfl ?_)), trivial⟩
     ·
      refine zp (q_call rkind_fc rfl rfl rfl) ?_
      change AU _ _ _ _ _ _ _ _
      refine au_all [3, 7] (by kernel_rfl) rfl ⟨.inl (ao_py rfl ?_), .inr (.inr (nw_alloc hN rfl rfl rfl rfl rfl rfl rfl ?_)), trivial⟩
      ·
       refine zp (q_call (joinReg_fc os (lessE (sinceE vs os) k) ho (less_ok hs k) lo (Nat.le_trans (less_len _ k) ls)) rfl rfl rfl) ?_
       change AU _ _ _ _ _ _ _ _
       refine yM 4 ?_; refine yX 5 ?_; refine yX 6 ?_
       refine au_all [7] (by kernel_rfl) rfl ⟨.inr (.inr (nw_alloc hN rfl rfl rfl rfl rfl rfl rfl ?_)), trivial⟩
       change AU _ _ _ _ _ _ _ _
       refine yS 8 ?_; refine yA 9 ?_; refine yD ?_
       exact weak_scrub' rfl (zz4 (zz2 trivial)) ⟨rfl, rfl, rfl, rfl, rfl, rfl, rfl, rfl, rfl, rfl, rfl, rfl, trivial⟩
      change AU _ _ _ _ _ _ _ _
      refine yP 3 rfl (q_call (joinReg_fc os (lessE (sinceE vs os) k) ho (less_ok hs k) lo (Nat.le_trans (less_len _ k) ls)) rfl rfl rfl) ?_
      refine yM 4 ?_; refine yX 5 ?_; refine yX 6 ?_; refine yS 8 ?_; refine yA 9 ?_; refine yD ?_
      exact weak_scrub' rfl (zz4 (zz2 trivial)) ⟨rfl, rfl, rfl, rfl, rfl, rfl, rfl, rfl, rfl, rfl, rfl, rfl, trivial⟩
     change AU _ _ _ _ _ _ _ _
     refine yP 0 rfl (q_call rkind_fc rfl rfl rfl) ?_
     refine yP 3 rfl (q_call (joinReg_fc os (lessE (sinceE vs os) k) ho (less_ok hs k) lo (Nat.le_trans (less_len _ k) ls)) rfl rfl rfl) ?_
     refine yM 4 ?_; refine yX 5 ?_; refine yX 6 ?_; refine yS 8 ?_; refine yA 9 ?_; refine yD ?_
     exact weak_scrub' rfl (zz4 (zz2 trivial)) ⟨rfl, rfl, rfl, rfl, rfl, rfl, rfl, rfl, rfl, rfl, rfl, rfl, trivial⟩
    change AU _ _ _ _ _ _ _ _
    refine au_all [0, 1] (by kernel_rfl) rfl ⟨.inl (ao_py rfl ?_), .inl (ao_py rfl ?_), trivial⟩
    ·
     refine zp (q_call rkind_fc rfl rfl rfl) ?_
     change AU _ _ _ _ _ _ _ _
     refine yL 1 ?_
     refine yP 3 rfl (q_call (joinReg_fc os (lessE (sinceE vs os) k) ho (less_ok hs k) lo (Nat.le_trans (less_len _ k) ls)) rfl rfl rfl) ?_
     refine yM 4 ?_; refine yX 5 ?_; refine yX 6 ?_; refine yS 8 ?_; refine yA 9 ?_; refine yD ?_
     exact weak_scrub' rfl (zz4 (zz2 trivial)) ⟨rfl, rfl, rfl, rfl, rfl, rfl, rfl, rfl, rfl, rfl, rfl, rfl, trivial⟩
    refine zl ?_
    change AU _ _ _ _ _ _ _ _
    refine yP 0 rfl (q_call rkind_fc rfl rfl rfl) ?_
    refine yP 3 rfl (q_call (joinReg_fc os (lessE (sinceE vs os) k) ho (less_ok hs k) lo (Nat.le_trans (less_len _ k) ls)) rfl rfl rfl) ?_
    refine yM 4 ?_; refine yX 5 ?_; refine yX 6 ?_; refine yS 8 ?_; refine yA 9 ?_; refine yD ?_
    exact weak_scrub' rfl (zz4 (zz2 trivial)) ⟨rfl, rfl, rfl, rfl, rfl, rfl, rfl, rfl, rfl, rfl, rfl, rfl, trivial⟩
   change AU _ _ _ _ _ _ _ _
   refine au_all [0, 1, 2] (by kernel_rfl) rfl ⟨.inl (ao_py rfl ?_), .inl (ao_py rfl ?_), .inl (ao_py rfl ?_), trivial⟩
   ·
    refine zp (q_call rkind_fc rfl rfl rfl) ?_
    change AU _ _ _ _ _ _ _ _
    refine au_all [1, 2] (by kernel_rfl) rfl ⟨.inl (ao_py rfl ?_), .inl (ao_py rfl ?_), trivial⟩
    ·
     refine zl ?_
     change AU _ _ _ _ _ _ _ _
     refine yL 2 ?_
     refine yP 3 rfl (q_call (joinReg_fc os (lessE (sinceE vs os) k) ho (less_ok hs k) lo (Nat.le_trans (less_len _ k) ls)) rfl rfl rfl) ?_
     refine yM 4 ?_; refine yX 5 ?_; refine yX 6 ?_; refine yS 8 ?_; refine yA 9 ?_; refine yD ?_
     exact weak_scrub' rfl (zz4 (zz2 trivial)) ⟨rfl, rfl, rfl, rfl, rfl, rfl, rfl, rfl, rfl, rfl, rfl, rfl, trivial⟩
    refine zl ?_
    change AU _ _ _ _ _ _ _ _
    refine yL 1 ?_
    refine yP 3 rfl (q_call (joinReg_fc os (lessE (sinceE vs os) k) ho (less_ok hs k) lo (Nat.le_trans (less_len _ k) ls)) rfl rfl rfl) ?_
    refine yM 4 ?_; refine yX 5 ?_; refine yX 6 ?_; refine yS 8 ?_; refine yA 9 ?_; refine yD ?_
    exact weak_scrub' rfl (zz4 (zz2 trivial)) ⟨rfl, rfl, rfl, rfl, rfl, rfl, rfl, rfl, rfl, rfl, rfl, rfl, trivial⟩
   ·
    refine zl ?_
    change AU _ _ _ _ _ _ _ _
    refine au_all [0, 2] (by kernel_rfl) rfl ⟨.inl (ao_py rfl ?_), .inl (ao_py rfl ?_), trivial⟩
    ·
     refine zp (q_call rkind_fc rfl rfl rfl) ?_
     change AU _ _ _ _ _ _ _ _
     refine yL 2 ?_
     refine yP 3 rfl (q_call (joinReg_fc os (lessE (sinceE vs os) k) ho (less_ok hs k) lo (Nat.le_trans (less_len _ k) ls)) rfl rfl rfl) ?_
     refine yM 4 ?_; refine yX 5 ?_; refine yX 6 ?_; refine yS 8 ?_; refine yA 9 ?_; refine yD ?_
     exact weak_scrub' rfl (zz4 (zz2 trivial)) ⟨rfl, rfl, rfl, rfl, rfl, rfl, rfl, rfl, rfl, rfl, rfl, rfl, trivial⟩
    refine zl ?_
    change AU _ _ _ _ _ _ _ _
    refine yP 0 rfl (q_call rkind_fc rfl rfl rfl) ?_
    refine yP 3 rfl (q_call (joinReg_fc os (lessE (sinceE vs os) k) ho (less_ok hs k) lo (Nat.le_trans (less_len _ k) ls)) rfl rfl rfl) ?_
    refine yM 4 ?_; refine yX 5 ?_; refine yX 6 ?_; refine yS 8 ?_; refine yA 9 ?_; refine yD ?_
    exact weak_scrub' rfl (zz4 (zz2 trivial)) ⟨rfl, rfl, rfl, rfl, rfl, rfl, rfl, rfl, rfl, rfl, rfl, rfl, trivial⟩
   refine zl ?_
   change AU _ _ _ _ _ _ _ _
   refine au_all [0, 1] (by kernel_rfl) rfl ⟨.inl (ao_py rfl ?_), .inl (ao_py rfl ?_), trivial⟩
   ·
    refine zp (q_call rkind_fc rfl rfl rfl) ?_
    change AU _ _ _ _ _ _ _ _
    refine yL 1 ?_
    refine yP 3 rfl (q_call (joinReg_fc os (lessE (sinceE vs os) k) ho (less_ok hs k) lo (Nat.le_trans (less_len _ k) ls)) rfl rfl rfl) ?_
    refine yM 4 ?_; refine yX 5 ?_; refine yX 6 ?_; refine yS 8 ?_; refine yA 9 ?_; refine yD ?_
    exact weak_scrub' rfl (zz4 (zz2 trivial)) ⟨rfl, rfl, rfl, rfl, rfl, rfl, rfl, rfl, rfl, rfl, rfl, rfl, trivial⟩
   refine zl ?_
   change AU _ _ _ _ _ _ _ _
   refine yP 0 rfl (q_call rkind_fc rfl rfl rfl) ?_
   refine yP 3 rfl (q_call (joinReg_fc os (lessE (sinceE vs os) k) ho (less_ok hs k) lo (Nat.le_trans (less_len _ k) ls)) rfl rfl rfl) ?_
   refine yM 4 ?_; refine yX 5 ?_; refine yX 6 ?_; refine yS 8 ?_; refine yA 9 ?_; refine yD ?_
   exact weak_scrub' rfl (zz4 (zz2 trivial)) ⟨rfl, rfl, rfl, rfl, rfl, rfl, rfl, rfl, rfl, rfl, rfl, rfl, trivial⟩
  refine zG ?_; refine zM ?_; refine zB ?_; refine zM ?_; refine zL ?_; refine zL ?_
  refine zP (q_call (fcb (c := false) (rEqual_fc (regV (mergedE os (lessE (sinceE vs os) k))) (regV (mergedE os vs))) (by rw [Bool.eq_false_iff, ne_eq, eqV_iff]; intro e; exact since_needed hv ho hlt (by injection e))) rfl rfl rfl) ?_
  refine zh0 rfl ?_; refine zN ?_; refine c_false rfl rfl ?_; refine awp_skip ?_; change AWP _ _ _ _  _; refine awp_region ?_; refine zM ?_
  refine zP (q_addi rfl rfl rfl (by omega)) ?_; refine zS ?_; refine aops_nil ?_
  exact ⟨⟨k + 1, hlt⟩, weak_scrub' rfl (zz3 ⟨(cgI (by dsimp only; omega)), rfl, trivial⟩) ⟨rfl, rfl, rfl, rfl, rfl, rfl, rfl, rfl, rfl, trivial⟩, by dsimp only; omega⟩
 have hge : (sinceE vs os).length ≤ k := by simpa [regV, Val.es] using h483
 refine awp_exit ?_; change AWP _ _ _ _  _; refine zG ?_; refine zS ?_; refine zQ ?_
 rfl
end Go.Proofs.YthldgioggjpnpaaGreat

namespace Go.Proofs.YthldgioggjpnpaaGreat
open Go.RowKit
set_option maxRecDepth 100000 in
set_option maxHeartbeats 1000000 in
theorem lawSince_n1 (hA : ∀ w, Calls Tryz.prog 10 #[] w fun e w' => e = .returned (.bool true) ∧ Below w.heap.size w w') (v o : Val) (cv : smallR v = false) : FB Tryz.prog 9 [.agg (valL v), .agg (valL o)] := by
 refine fb_of_awp [4] Tryz.func9 rfl rfl 97 Tryz.ntmps9 (Nat.le_of_ble_eq_true rfl) ?_
 intro E hN
 intro hz
 refine zG ?_; refine zX ?_; refine zX ?_; refine zT ?_; refine zH ?_; refine s_bcall hN hz hA rfl rfl rfl rfl rfl ?_; refine zP (q_not rfl rfl) ?_
 refine zN ?_; refine c_false rfl rfl ?_; refine zW ?_; refine zH ?_; refine zL ?_
 refine zP (q_call (fcb (c := false) (smallR_fc v) cv) rfl rfl rfl) ?_; refine zP (q_not rfl rfl) ?_; refine zM ?_
 iterate 3 refine zK ?_
 refine zh1 rfl ?_; refine zN ?_; refine c_true rfl rfl ?_; refine zG ?_; refine zS ?_; refine zQ ?_
 rfl
set_option maxRecDepth 100000 in
set_option maxHeartbeats 1000000 in
theorem lawSince_n2 (hA : ∀ w, Calls Tryz.prog 10 #[] w fun e w' => e = .returned (.bool true) ∧ Below w.heap.size w w') (v o : Val) (cv : smallR v = true) (co : smallR o = false) : FB Tryz.prog 9 [.agg (valL v), .agg (valL o)] := by
 refine fb_of_awp [4] Tryz.func9 rfl rfl 97 Tryz.ntmps9 (Nat.le_of_ble_eq_true rfl) ?_
 intro E hN
 intro hz
 refine zG ?_; refine zX ?_; refine zX ?_; refine zT ?_; refine zH ?_; refine s_bcall hN hz hA rfl rfl rfl rfl rfl ?_; refine zP (q_not rfl rfl) ?_
 refine zN ?_; refine c_false rfl rfl ?_; refine zW ?_; refine zH ?_; refine zL ?_
 refine zP (q_call (fcb (c := true) (smallR_fc v) cv) rfl rfl rfl) ?_; refine zP (q_not rfl rfl) ?_; refine zM ?_; refine zL ?_
 refine zP (q_call (fcb (c := false) (smallR_fc o) co) rfl rfl rfl) ?_; refine zP (q_not rfl rfl) ?_; refine zh0 rfl ?_; refine zN ?_
 refine c_true rfl rfl ?_; refine zG ?_; refine zS ?_; refine zQ ?_
 rfl
theorem lawSince_fb (hA : ∀ w, Calls Tryz.prog 10 #[] w fun e w' => e = .returned (.bool true) ∧ Below w.heap.size w w') (v o : Val) : FB Tryz.prog 9 [.agg (valL v), .agg (valL o)] := by
 cases cv : smallR v with
 | false => exact lawSince_n1 hA v o cv
 | true =>
  cases co : smallR o with
  | false => exact lawSince_n2 hA v o cv co
  | true =>
   obtain ⟨e1, l1, h1⟩ := reg_parts cv
   obtain ⟨e2, l2, h2⟩ := reg_parts co
   have h := lawSince_ok hA v.es o.es h1 h2 l1 l2 (by rw [← e1]; exact cv) (by rw [← e2]; exact co)
   rw [← e1, ← e2] at h
   exact h
end Go.Proofs.YthldgioggjpnpaaGreat
