/-
  Contracts: finite.maps with too many maps (seat r5).
-/
import Derived.Test.YtaecccdkjmipeaaGreatF14
import Derived.Test.YtaecccdkjmipeaaGreatB13
namespace Go.Proofs.YtaecccdkjmipeaaGreat
set_option maxRecDepth 100000
set_option maxHeartbeats 1000000
open Go.RowKit
theorem QqJ (names : List Nm) (L : List Qn) (i0 : Nat) (hi0 : i0 < names.length) (h64 : names.length ≤ 64) (hL : L.length ≤ 256) (h256 : ∀ i, i ≤ i0 → (Q8 (names.take i) L).length ≤ 256) (hbig : 256 < (Q8 (names.take (i0 + 1)) L).length) : FC Tryz.prog 77 [XU names, JM L] (.tup [.sl [] none, bl false]) := by
 refine Qd [4, 5] Tryz.func77 rfl rfl 62 Tryz.ntmps77 (Nat.le_of_ble_eq_true rfl) ?_
 intro E hN
 refine JK 0 rfl (fun hl0 => ?_)
 refine XJ ?_; refine zP (Qj rfl rfl rfl rfl (by exact rfl) (by decide) (by decide)) ?_; refine XN ?_
 refine Qi (fun x : {i : Nat // i ≤ i0 ∧ True} => ⟨[(1, JM L), (16, XU names), (17, i64 names.length), (18, i64 (x.1 : Nat)), (6, JM (Q8 (names.take x.1) L))], [], 0⟩) (fun x => i0 - x.1) (⟨0, Nat.zero_le _, by trivial⟩) ?_ ?_
 ·
  exact Qa rfl (Jg ⟨(QE (by simp)), rfl, rfl, rfl, QoC, rfl, trivial⟩) trivial
 rintro ⟨i, hi, gi⟩
 dsimp only
 refine QA ?_
 refine zq ?_ ?_ <;> intro h11
 rotate_left
 ·
  exfalso; simp at h11; omega
 obtain ⟨key, hik⟩ := Qk (show i < names.length by omega)
 have hc256 := h256 i hi
 refine QA ?_; refine zP (Qh rfl rfl rfl i rfl _ (Qq hik) rfl) ?_; refine Qeo ?_; refine Qu (Yu rfl 9 30 4 rfl) ?_
 refine Qi (fun x : {k : Nat // k ≤ (Q8 (names.take i) L).length ∧ (Qbg key (Q8 (names.take i) L) L k).length ≤ 256} => ⟨[(1, JM L), (16, XU names), (17, i64 names.length), (18, i64 (i : Nat)), (8, sv key), (22, JM (Q8 (names.take i) L)), (23, i64 (Q8 (names.take i) L).length), (24, i64 (x.1 : Nat)), (9, .own 0 (Qbg key (Q8 (names.take i) L) L x.1).length)], [(0, .arr 30 4 ((Qbg key (Q8 (names.take i) L) L x.1).map Xx))], 1⟩) (fun x => (Q8 (names.take i) L).length - x.1) (⟨0, Nat.zero_le _, by simp [Qbg]⟩) ?_ ?_
 ·
  exact Qa rfl (QR (Jg ⟨(QE (by simp)), rfl, (Jg trivial)⟩)) ⟨rfl, rfl, (Qw _), trivial⟩
 rintro ⟨k, hk, gk⟩
 dsimp only
 refine QA ?_
 refine zq ?_ ?_ <;> intro h24
 rotate_left
 ·
  have gek : (Q8 (names.take i) L).length ≤ k := by simpa using h24
  have lti : i < i0 := by
   rcases Nat.lt_or_ge i i0 with h | h
   ·exact h
   exfalso
   have e : i0 = i := by omega
   rw [e, Wk hik, ← Qdk gek] at hbig
   omega
  refine XJ ?_; refine Qb ?_
  exact ⟨⟨i + 1, lti, trivial⟩, WM.trans (QB 6 0 rfl rfl (by simp) (QS _) (Qp _) rfl) (Qa rfl (Xl ⟨(QE (by dsimp only; omega)), rfl, (Qtt (by rw [Qdk gek, Wk hik])), rfl, trivial⟩) trivial), by dsimp only; omega⟩
 have ltk : k < (Q8 (names.take i) L).length := by simpa using h24
 obtain ⟨v, hkv⟩ := Qk ltk
 have hvp := Ql6 _ v (List.mem_of_getElem? hkv)
 rw [List.length_take] at hvp
 have hdk := QfL (key := key) (out := (Q8 (names.take i) L)) (L := L) (show k ≤ (Q8 (names.take i) L).length by omega)
 refine QA ?_; refine zP (Qh rfl rfl rfl k rfl _ (Xk hkv) rfl) ?_; refine QA ?_; refine Qu (J2 11 1 rfl rfl rfl rfl) ?_
 refine QC ?_; refine zP (Qj rfl rfl rfl rfl (by exact rfl) (by decide) (by decide)) ?_
 refine Xb hN rfl rfl rfl (by simp) rfl rfl (by rfl) (by rw [List.length_map]; simp [Qg]; omega) rfl rfl rfl rfl ?_
 refine XN ?_
 refine Qi (fun x : {j : Nat // j ≤ L.length ∧ True} => ⟨[(1, JM L), (16, XU names), (17, i64 names.length), (18, i64 (i : Nat)), (8, sv key), (22, JM (Q8 (names.take i) L)), (23, i64 (Q8 (names.take i) L).length), (24, i64 (k : Nat)), (9, .own 0 (Wj key (Q8 (names.take i) L) L k v x.1).length), (11, .el (Xm v)), (32, JM L), (33, i64 L.length), (34, i64 (x.1 : Nat))], [(0, .arr 30 4 ((Wj key (Q8 (names.take i) L) L k v x.1).map Xx))], 2⟩) (fun x => L.length - x.1) (⟨0, Nat.zero_le _, by trivial⟩) ?_ ?_
 ·
  exact Qa rfl (QR (QR ⟨(Kq (by simp [Wj, Qg])), rfl, (Jg ⟨(QE (by simp)), rfl, (Xu trivial)⟩)⟩)) ⟨(Yl (by rw [Wj, List.map_append, List.take_zero, List.map_nil, List.map_cons, X3 v]; rfl)), rfl, (Qw _), trivial⟩
 rintro ⟨j, hj, gj⟩
 dsimp only
 refine QA ?_
 refine zq ?_ ?_ <;> intro h46
 rotate_left
 ·
  have gej : L.length ≤ j := by simpa using h46
  have hdl := Qcv (key := key) (out := (Q8 (names.take i) L)) (L := L) (v := v) (show k ≤ (Q8 (names.take i) L).length by omega) (show j ≤ L.length by omega)
  refine QJ ?_; refine zP (Yn rfl rfl (by rfl) (by simp)) ?_; refine QO ?_
  refine zq ?_ ?_ <;> intro h156
  ·
   refine QJ ?_; refine zQ ?_
   rfl
  have h15 := of_decide_eq_false h156
  refine QJ ?_; refine Qb ?_
  exact ⟨⟨k + 1, ltk, (by rw [← QaT hkv gej]; have := h15; omega)⟩, Qa rfl (QR (Xl ⟨(QE (by dsimp only; omega)), rfl, (Kq (congrArg List.length (QaT hkv gej))), rfl, trivial⟩)) ⟨(Yl (congrArg (List.map Xx) (QaT hkv gej))), rfl, (Qw _), trivial⟩, by dsimp only; omega⟩
 have ltj : j < L.length := by simpa using h46
 obtain ⟨q, hjq⟩ := Qk ltj
 have hdl := Qcv (key := key) (out := (Q8 (names.take i) L)) (L := L) (v := v) (show k ≤ (Q8 (names.take i) L).length by omega) (show j ≤ L.length by omega)
 refine QA ?_; refine zP (Qh rfl rfl rfl j rfl _ (Xk hjq) rfl) ?_; refine QJ ?_; refine Qu (J2 13 2 rfl rfl rfl rfl) ?_
 refine QdG hN 17 rfl (by kernel_rfl) (by kernel_rfl) (fun _ _ h => h) (fun E2 hN2 => ?_)
 refine Jo 0 rfl (by kernel_rfl) (by kernel_rfl) rfl ((Yf hN2 rfl rfl rfl rfl rfl rfl).wf) ?_
 refine Jo 1 rfl (by kernel_rfl) (by kernel_rfl) rfl ((Kd hN2 rfl rfl rfl rfl rfl rfl rfl rfl).wf) ?_
 refine Jo 2 rfl (by kernel_rfl) (by kernel_rfl) rfl (Qbn hN2 rfl rfl rfl rfl rfl rfl rfl rfl) ?_
 refine Jo 4 rfl (by kernel_rfl) (by kernel_rfl) rfl ((Yf hN2 rfl rfl rfl rfl rfl rfl).wf) ?_
 refine Jo 7 rfl (by kernel_rfl) (by kernel_rfl) rfl ((Kd hN2 rfl rfl rfl rfl rfl rfl rfl rfl).wf) ?_
 refine Jo 8 rfl (by kernel_rfl) (by kernel_rfl) rfl (Qbn hN2 rfl rfl rfl rfl rfl rfl rfl rfl) ?_
 refine Jo 10 rfl (by kernel_rfl) (by kernel_rfl) rfl (Qbn hN2 rfl rfl rfl rfl rfl rfl rfl rfl) ?_; refine Qgq ?_
 refine Qf [3, 5, 11] (by kernel_rfl) rfl ⟨.inr (.inr (Q1 hN2 rfl rfl (Kn v.nm (by omega)) (.fn _ _ _ _ rfl rfl) rfl rfl rfl rfl rfl ?_)), .inl (Qx rfl ?_), .inl (Qx rfl ?_), trivial⟩
 ·
  change AU _ _ _ _ _ _ _ _
  refine Qf [5, 11] (by kernel_rfl) rfl ⟨.inl (Qx rfl ?_), .inl (Qx rfl ?_), trivial⟩
  ·
   refine X1 hN2 (Qj rfl rfl rfl rfl (by exact rfl) (by decide) (by decide)) rfl rfl rfl rfl ?_
   change AU _ _ _ _ _ _ _ _
   refine Qf [6, 11] (by kernel_rfl) rfl ⟨.inr (.inr (Qe hN2 rfl rfl rfl rfl (by simp) rfl rfl (by rfl) (by simp [Qg]; omega) rfl rfl rfl rfl ?_)), .inl (Qx rfl ?_), trivial⟩
   ·
    change AU _ _ _ _ _ _ _ _
    refine Qf [9, 11] (by kernel_rfl) rfl ⟨.inr (.inr (Q1 hN2 rfl rfl (QZ v.ps (by omega)) (.fn _ _ _ _ rfl rfl) rfl rfl rfl rfl rfl ?_)), .inl (Qx rfl ?_), trivial⟩
    ·
     change AU _ _ _ _ _ _ _ _
     refine Qf [11] (by kernel_rfl) rfl ⟨.inl (Qx rfl ?_), trivial⟩
     refine X1 hN2 (Qj rfl rfl rfl rfl (by exact rfl) (by decide) (by decide)) rfl rfl rfl rfl ?_
     change AU _ _ _ _ _ _ _ _
     refine Qf [12] (by kernel_rfl) rfl ⟨.inr (.inr (Qe hN2 rfl rfl rfl rfl (by simp) rfl rfl (by rfl) (by simp [Qg]; omega) rfl rfl rfl rfl ?_)), trivial⟩
     change AU _ _ _ _ _ _ _ _
     refine Qf [13] (by kernel_rfl) rfl ⟨.inr (.inr (Xg hN2 rfl rfl rfl rfl rfl (XT 44 3 50 4 rfl rfl rfl rfl (by decide) (by decide) (by simp) (QV (XA (fun _ => rfl) _) (by rfl)) (Xn (JB (fun _ => rfl) _) (by intro e he; simp [Qg] at he; subst he; rfl)) (by simp) (QV (QS _) (by rfl)) (Xn (Qp _) (by intro e he; simp [Qg] at he; subst he; rfl)) rfl) (XB rfl rfl rfl) ?_)), trivial⟩
     change AU _ _ _ _ _ _ _ _
     refine Qf [14] (by kernel_rfl) rfl ⟨.inl (Qx rfl ?_), trivial⟩
     refine X1 hN2 (Qj rfl rfl rfl rfl (by exact rfl) (by decide) (by decide)) rfl rfl rfl rfl ?_
     change AU _ _ _ _ _ _ _ _
     refine Qf [15] (by kernel_rfl) rfl ⟨.inr (.inr (Qe hN2 rfl rfl rfl rfl (by simp) rfl rfl (by rfl) (by rw [List.length_map, hdl]; simp [Qg]; omega) rfl rfl rfl rfl ?_)), trivial⟩
     change AU _ _ _ _ _ _ _ _
     refine Xy 16 rfl (by kernel_rfl) (by kernel_rfl) rfl (Q9 hN2 rfl rfl rfl rfl rfl rfl) ?_; refine yD ?_; change J5 _ _ _ _  _
     refine QC ?_; refine Qb ?_
     exact ⟨⟨j + 1, ltj, trivial⟩, Qa rfl (QR (QR ⟨(Kq (by rw [QD hjq]; simp [Qg])), rfl, (Xl ⟨(QE (by dsimp only; omega)), rfl, trivial⟩)⟩)) ⟨(Yl (by rw [QD hjq, List.map_append, List.map_cons, List.map_nil, ← Jl]; rfl)), rfl, (Qw _), trivial⟩, by dsimp only; omega⟩
    refine X1 hN2 (Qj rfl rfl rfl rfl (by exact rfl) (by decide) (by decide)) rfl rfl rfl rfl ?_
    change AU _ _ _ _ _ _ _ _
    refine Qf [9] (by kernel_rfl) rfl ⟨.inr (.inr (Q1 hN2 rfl rfl (QZ v.ps (by omega)) (.fn _ _ _ _ rfl rfl) rfl rfl rfl rfl rfl ?_)), trivial⟩
    change AU _ _ _ _ _ _ _ _
    refine Qf [12] (by kernel_rfl) rfl ⟨.inr (.inr (Qe hN2 rfl rfl rfl rfl (by simp) rfl rfl (by rfl) (by simp [Qg]; omega) rfl rfl rfl rfl ?_)), trivial⟩
    change AU _ _ _ _ _ _ _ _
    refine Qf [13] (by kernel_rfl) rfl ⟨.inr (.inr (Xg hN2 rfl rfl rfl rfl rfl (XT 44 3 50 4 rfl rfl rfl rfl (by decide) (by decide) (by simp) (QV (XA (fun _ => rfl) _) (by rfl)) (Xn (JB (fun _ => rfl) _) (by intro e he; simp [Qg] at he; subst he; rfl)) (by simp) (QV (QS _) (by rfl)) (Xn (Qp _) (by intro e he; simp [Qg] at he; subst he; rfl)) rfl) (XB rfl rfl rfl) ?_)), trivial⟩
    change AU _ _ _ _ _ _ _ _
    refine Qf [14] (by kernel_rfl) rfl ⟨.inl (Qx rfl ?_), trivial⟩
    refine X1 hN2 (Qj rfl rfl rfl rfl (by exact rfl) (by decide) (by decide)) rfl rfl rfl rfl ?_
    change AU _ _ _ _ _ _ _ _
    refine Qf [15] (by kernel_rfl) rfl ⟨.inr (.inr (Qe hN2 rfl rfl rfl rfl (by simp) rfl rfl (by rfl) (by rw [List.length_map, hdl]; simp [Qg]; omega) rfl rfl rfl rfl ?_)), trivial⟩
    change AU _ _ _ _ _ _ _ _
    refine Xy 16 rfl (by kernel_rfl) (by kernel_rfl) rfl (Q9 hN2 rfl rfl rfl rfl rfl rfl) ?_; refine yD ?_; change J5 _ _ _ _  _
    refine QC ?_; refine Qb ?_
    exact ⟨⟨j + 1, ltj, trivial⟩, Qa rfl (QR (QR ⟨(Kq (by rw [QD hjq]; simp [Qg])), rfl, (Xl ⟨(QE (by dsimp only; omega)), rfl, trivial⟩)⟩)) ⟨(Yl (by rw [QD hjq, List.map_append, List.map_cons, List.map_nil, ← Jl]; rfl)), rfl, (Qw _), trivial⟩, by dsimp only; omega⟩
   refine X1 hN2 (Qj rfl rfl rfl rfl (by exact rfl) (by decide) (by decide)) rfl rfl rfl rfl ?_
   change AU _ _ _ _ _ _ _ _
   refine Qf [6] (by kernel_rfl) rfl ⟨.inr (.inr (Qe hN2 rfl rfl rfl rfl (by simp) rfl rfl (by rfl) (by simp [Qg]; omega) rfl rfl rfl rfl ?_)), trivial⟩
   change AU _ _ _ _ _ _ _ _
   refine Qf [9] (by kernel_rfl) rfl ⟨.inr (.inr (Q1 hN2 rfl rfl (QZ v.ps (by omega)) (.fn _ _ _ _ rfl rfl) rfl rfl rfl rfl rfl ?_)), trivial⟩
   change AU _ _ _ _ _ _ _ _
   refine Qf [12] (by kernel_rfl) rfl ⟨.inr (.inr (Qe hN2 rfl rfl rfl rfl (by simp) rfl rfl (by rfl) (by simp [Qg]; omega) rfl rfl rfl rfl ?_)), trivial⟩
   change AU _ _ _ _ _ _ _ _
   refine Qf [13] (by kernel_rfl) rfl ⟨.inr (.inr (Xg hN2 rfl rfl rfl rfl rfl (XT 44 3 50 4 rfl rfl rfl rfl (by decide) (by decide) (by simp) (QV (XA (fun _ => rfl) _) (by rfl)) (Xn (JB (fun _ => rfl) _) (by intro e he; simp [Qg] at he; subst he; rfl)) (by simp) (QV (QS _) (by rfl)) (Xn (Qp _) (by intro e he; simp [Qg] at he; subst he; rfl)) rfl) (XB rfl rfl rfl) ?_)), trivial⟩
   change AU _ _ _ _ _ _ _ _
   refine Qf [14] (by kernel_rfl) rfl ⟨.inl (Qx rfl ?_), trivial⟩
   refine X1 hN2 (Qj rfl rfl rfl rfl (by exact rfl) (by decide) (by decide)) rfl rfl rfl rfl ?_
   change AU _ _ _ _ _ _ _ _
   refine Qf [15] (by kernel_rfl) rfl ⟨.inr (.inr (Qe hN2 rfl rfl rfl rfl (by simp) rfl rfl (by rfl) (by rw [List.length_map, hdl]; simp [Qg]; omega) rfl rfl rfl rfl ?_)), trivial⟩
   change AU _ _ _ _ _ _ _ _
   refine Xy 16 rfl (by kernel_rfl) (by kernel_rfl) rfl (Q9 hN2 rfl rfl rfl rfl rfl rfl) ?_; refine yD ?_; change J5 _ _ _ _  _
   refine QC ?_; refine Qb ?_
   exact ⟨⟨j + 1, ltj, trivial⟩, Qa rfl (QR (QR ⟨(Kq (by rw [QD hjq]; simp [Qg])), rfl, (Xl ⟨(QE (by dsimp only; omega)), rfl, trivial⟩)⟩)) ⟨(Yl (by rw [QD hjq, List.map_append, List.map_cons, List.map_nil, ← Jl]; rfl)), rfl, (Qw _), trivial⟩, by dsimp only; omega⟩
  refine X1 hN2 (Qj rfl rfl rfl rfl (by exact rfl) (by decide) (by decide)) rfl rfl rfl rfl ?_
  change AU _ _ _ _ _ _ _ _
  refine Qf [5] (by kernel_rfl) rfl ⟨.inl (Qx rfl ?_), trivial⟩
  refine X1 hN2 (Qj rfl rfl rfl rfl (by exact rfl) (by decide) (by decide)) rfl rfl rfl rfl ?_
  change AU _ _ _ _ _ _ _ _
  refine Qf [6] (by kernel_rfl) rfl ⟨.inr (.inr (Qe hN2 rfl rfl rfl rfl (by simp) rfl rfl (by rfl) (by simp [Qg]; omega) rfl rfl rfl rfl ?_)), trivial⟩
  change AU _ _ _ _ _ _ _ _
  refine Qf [9] (by kernel_rfl) rfl ⟨.inr (.inr (Q1 hN2 rfl rfl (QZ v.ps (by omega)) (.fn _ _ _ _ rfl rfl) rfl rfl rfl rfl rfl ?_)), trivial⟩
  change AU _ _ _ _ _ _ _ _
  refine Qf [12] (by kernel_rfl) rfl ⟨.inr (.inr (Qe hN2 rfl rfl rfl rfl (by simp) rfl rfl (by rfl) (by simp [Qg]; omega) rfl rfl rfl rfl ?_)), trivial⟩
  change AU _ _ _ _ _ _ _ _
  refine Qf [13] (by kernel_rfl) rfl ⟨.inr (.inr (Xg hN2 rfl rfl rfl rfl rfl (XT 44 3 50 4 rfl rfl rfl rfl (by decide) (by decide) (by simp) (QV (XA (fun _ => rfl) _) (by rfl)) (Xn (JB (fun _ => rfl) _) (by intro e he; simp [Qg] at he; subst he; rfl)) (by simp) (QV (QS _) (by rfl)) (Xn (Qp _) (by intro e he; simp [Qg] at he; subst he; rfl)) rfl) (XB rfl rfl rfl) ?_)), trivial⟩
  change AU _ _ _ _ _ _ _ _
  refine Qf [14] (by kernel_rfl) rfl ⟨.inl (Qx rfl ?_), trivial⟩
  refine X1 hN2 (Qj rfl rfl rfl rfl (by exact rfl) (by decide) (by decide)) rfl rfl rfl rfl ?_
  change AU _ _ _ _ _ _ _ _
  refine Qf [15] (by kernel_rfl) rfl ⟨.inr (.inr (Qe hN2 rfl rfl rfl rfl (by simp) rfl rfl (by rfl) (by rw [List.length_map, hdl]; simp [Qg]; omega) rfl rfl rfl rfl ?_)), trivial⟩
  change AU _ _ _ _ _ _ _ _
  refine Xy 16 rfl (by kernel_rfl) (by kernel_rfl) rfl (Q9 hN2 rfl rfl rfl rfl rfl rfl) ?_; refine yD ?_; change J5 _ _ _ _  _
  refine QC ?_; refine Qb ?_
  exact ⟨⟨j + 1, ltj, trivial⟩, Qa rfl (QR (QR ⟨(Kq (by rw [QD hjq]; simp [Qg])), rfl, (Xl ⟨(QE (by dsimp only; omega)), rfl, trivial⟩)⟩)) ⟨(Yl (by rw [QD hjq, List.map_append, List.map_cons, List.map_nil, ← Jl]; rfl)), rfl, (Qw _), trivial⟩, by dsimp only; omega⟩
 ·
  refine X1 hN2 (Qj rfl rfl rfl rfl (by exact rfl) (by decide) (by decide)) rfl rfl rfl rfl ?_
  change AU _ _ _ _ _ _ _ _
  refine Qf [3, 11] (by kernel_rfl) rfl ⟨.inr (.inr (Q1 hN2 rfl rfl (Kn v.nm (by omega)) (.fn _ _ _ _ rfl rfl) rfl rfl rfl rfl rfl ?_)), .inl (Qx rfl ?_), trivial⟩
  ·
   change AU _ _ _ _ _ _ _ _
   refine Qf [6, 11] (by kernel_rfl) rfl ⟨.inr (.inr (Qe hN2 rfl rfl rfl rfl (by simp) rfl rfl (by rfl) (by simp [Qg]; omega) rfl rfl rfl rfl ?_)), .inl (Qx rfl ?_), trivial⟩
   ·
    change AU _ _ _ _ _ _ _ _
    refine Qf [9, 11] (by kernel_rfl) rfl ⟨.inr (.inr (Q1 hN2 rfl rfl (QZ v.ps (by omega)) (.fn _ _ _ _ rfl rfl) rfl rfl rfl rfl rfl ?_)), .inl (Qx rfl ?_), trivial⟩
    ·
     change AU _ _ _ _ _ _ _ _
     refine Qf [11] (by kernel_rfl) rfl ⟨.inl (Qx rfl ?_), trivial⟩
     refine X1 hN2 (Qj rfl rfl rfl rfl (by exact rfl) (by decide) (by decide)) rfl rfl rfl rfl ?_
     change AU _ _ _ _ _ _ _ _
     refine Qf [12] (by kernel_rfl) rfl ⟨.inr (.inr (Qe hN2 rfl rfl rfl rfl (by simp) rfl rfl (by rfl) (by simp [Qg]; omega) rfl rfl rfl rfl ?_)), trivial⟩
     change AU _ _ _ _ _ _ _ _
     refine Qf [13] (by kernel_rfl) rfl ⟨.inr (.inr (Xg hN2 rfl rfl rfl rfl rfl (XT 44 3 50 4 rfl rfl rfl rfl (by decide) (by decide) (by simp) (QV (XA (fun _ => rfl) _) (by rfl)) (Xn (JB (fun _ => rfl) _) (by intro e he; simp [Qg] at he; subst he; rfl)) (by simp) (QV (QS _) (by rfl)) (Xn (Qp _) (by intro e he; simp [Qg] at he; subst he; rfl)) rfl) (XB rfl rfl rfl) ?_)), trivial⟩
     change AU _ _ _ _ _ _ _ _
     refine Qf [14] (by kernel_rfl) rfl ⟨.inl (Qx rfl ?_), trivial⟩
     refine X1 hN2 (Qj rfl rfl rfl rfl (by exact rfl) (by decide) (by decide)) rfl rfl rfl rfl ?_
     change AU _ _ _ _ _ _ _ _
     refine Qf [15] (by kernel_rfl) rfl ⟨.inr (.inr (Qe hN2 rfl rfl rfl rfl (by simp) rfl rfl (by rfl) (by rw [List.length_map, hdl]; simp [Qg]; omega) rfl rfl rfl rfl ?_)), trivial⟩
     change AU _ _ _ _ _ _ _ _
     refine Xy 16 rfl (by kernel_rfl) (by kernel_rfl) rfl (Q9 hN2 rfl rfl rfl rfl rfl rfl) ?_; refine yD ?_; change J5 _ _ _ _  _
     refine QC ?_; refine Qb ?_
     exact ⟨⟨j + 1, ltj, trivial⟩, Qa rfl (QR (QR ⟨(Kq (by rw [QD hjq]; simp [Qg])), rfl, (Xl ⟨(QE (by dsimp only; omega)), rfl, trivial⟩)⟩)) ⟨(Yl (by rw [QD hjq, List.map_append, List.map_cons, List.map_nil, ← Jl]; rfl)), rfl, (Qw _), trivial⟩, by dsimp only; omega⟩
    refine X1 hN2 (Qj rfl rfl rfl rfl (by exact rfl) (by decide) (by decide)) rfl rfl rfl rfl ?_
    change AU _ _ _ _ _ _ _ _
    refine Qf [9] (by kernel_rfl) rfl ⟨.inr (.inr (Q1 hN2 rfl rfl (QZ v.ps (by omega)) (.fn _ _ _ _ rfl rfl) rfl rfl rfl rfl rfl ?_)), trivial⟩
    change AU _ _ _ _ _ _ _ _
    refine Qf [12] (by kernel_rfl) rfl ⟨.inr (.inr (Qe hN2 rfl rfl rfl rfl (by simp) rfl rfl (by rfl) (by simp [Qg]; omega) rfl rfl rfl rfl ?_)), trivial⟩
    change AU _ _ _ _ _ _ _ _
    refine Qf [13] (by kernel_rfl) rfl ⟨.inr (.inr (Xg hN2 rfl rfl rfl rfl rfl (XT 44 3 50 4 rfl rfl rfl rfl (by decide) (by decide) (by simp) (QV (XA (fun _ => rfl) _) (by rfl)) (Xn (JB (fun _ => rfl) _) (by intro e he; simp [Qg] at he; subst he; rfl)) (by simp) (QV (QS _) (by rfl)) (Xn (Qp _) (by intro e he; simp [Qg] at he; subst he; rfl)) rfl) (XB rfl rfl rfl) ?_)), trivial⟩
    change AU _ _ _ _ _ _ _ _
    refine Qf [14] (by kernel_rfl) rfl ⟨.inl (Qx rfl ?_), trivial⟩
    refine X1 hN2 (Qj rfl rfl rfl rfl (by exact rfl) (by decide) (by decide)) rfl rfl rfl rfl ?_
    change AU _ _ _ _ _ _ _ _
    refine Qf [15] (by kernel_rfl) rfl ⟨.inr (.inr (Qe hN2 rfl rfl rfl rfl (by simp) rfl rfl (by rfl) (by rw [List.length_map, hdl]; simp [Qg]; omega) rfl rfl rfl rfl ?_)), trivial⟩
    change AU _ _ _ _ _ _ _ _
    refine Xy 16 rfl (by kernel_rfl) (by kernel_rfl) rfl (Q9 hN2 rfl rfl rfl rfl rfl rfl) ?_; refine yD ?_; change J5 _ _ _ _  _
    refine QC ?_; refine Qb ?_
    exact ⟨⟨j + 1, ltj, trivial⟩, Qa rfl (QR (QR ⟨(Kq (by rw [QD hjq]; simp [Qg])), rfl, (Xl ⟨(QE (by dsimp only; omega)), rfl, trivial⟩)⟩)) ⟨(Yl (by rw [QD hjq, List.map_append, List.map_cons, List.map_nil, ← Jl]; rfl)), rfl, (Qw _), trivial⟩, by dsimp only; omega⟩
   refine X1 hN2 (Qj rfl rfl rfl rfl (by exact rfl) (by decide) (by decide)) rfl rfl rfl rfl ?_
   change AU _ _ _ _ _ _ _ _
   refine Qf [6] (by kernel_rfl) rfl ⟨.inr (.inr (Qe hN2 rfl rfl rfl rfl (by simp) rfl rfl (by rfl) (by simp [Qg]; omega) rfl rfl rfl rfl ?_)), trivial⟩
   change AU _ _ _ _ _ _ _ _
   refine Qf [9] (by kernel_rfl) rfl ⟨.inr (.inr (Q1 hN2 rfl rfl (QZ v.ps (by omega)) (.fn _ _ _ _ rfl rfl) rfl rfl rfl rfl rfl ?_)), trivial⟩
   change AU _ _ _ _ _ _ _ _
   refine Qf [12] (by kernel_rfl) rfl ⟨.inr (.inr (Qe hN2 rfl rfl rfl rfl (by simp) rfl rfl (by rfl) (by simp [Qg]; omega) rfl rfl rfl rfl ?_)), trivial⟩
   change AU _ _ _ _ _ _ _ _
   refine Qf [13] (by kernel_rfl) rfl ⟨.inr (.inr (Xg hN2 rfl rfl rfl rfl rfl (XT 44 3 50 4 rfl rfl rfl rfl (by decide) (by decide) (by simp) (QV (XA (fun _ => rfl) _) (by rfl)) (Xn (JB (fun _ => rfl) _) (by intro e he; simp [Qg] at he; subst he; rfl)) (by simp) (QV (QS _) (by rfl)) (Xn (Qp _) (by intro e he; simp [Qg] at he; subst he; rfl)) rfl) (XB rfl rfl rfl) ?_)), trivial⟩
   change AU _ _ _ _ _ _ _ _
   refine Qf [14] (by kernel_rfl) rfl ⟨.inl (Qx rfl ?_), trivial⟩
   refine X1 hN2 (Qj rfl rfl rfl rfl (by exact rfl) (by decide) (by decide)) rfl rfl rfl rfl ?_
   change AU _ _ _ _ _ _ _ _
   refine Qf [15] (by kernel_rfl) rfl ⟨.inr (.inr (Qe hN2 rfl rfl rfl rfl (by simp) rfl rfl (by rfl) (by rw [List.length_map, hdl]; simp [Qg]; omega) rfl rfl rfl rfl ?_)), trivial⟩
   change AU _ _ _ _ _ _ _ _
   refine Xy 16 rfl (by kernel_rfl) (by kernel_rfl) rfl (Q9 hN2 rfl rfl rfl rfl rfl rfl) ?_; refine yD ?_; change J5 _ _ _ _  _
   refine QC ?_; refine Qb ?_
   exact ⟨⟨j + 1, ltj, trivial⟩, Qa rfl (QR (QR ⟨(Kq (by rw [QD hjq]; simp [Qg])), rfl, (Xl ⟨(QE (by dsimp only; omega)), rfl, trivial⟩)⟩)) ⟨(Yl (by rw [QD hjq, List.map_append, List.map_cons, List.map_nil, ← Jl]; rfl)), rfl, (Qw _), trivial⟩, by dsimp only; omega⟩
  refine X1 hN2 (Qj rfl rfl rfl rfl (by exact rfl) (by decide) (by decide)) rfl rfl rfl rfl ?_
  change AU _ _ _ _ _ _ _ _
  refine Qf [3] (by kernel_rfl) rfl ⟨.inr (.inr (Q1 hN2 rfl rfl (Kn v.nm (by omega)) (.fn _ _ _ _ rfl rfl) rfl rfl rfl rfl rfl ?_)), trivial⟩
  change AU _ _ _ _ _ _ _ _
  refine Qf [6] (by kernel_rfl) rfl ⟨.inr (.inr (Qe hN2 rfl rfl rfl rfl (by simp) rfl rfl (by rfl) (by simp [Qg]; omega) rfl rfl rfl rfl ?_)), trivial⟩
  change AU _ _ _ _ _ _ _ _
  refine Qf [9] (by kernel_rfl) rfl ⟨.inr (.inr (Q1 hN2 rfl rfl (QZ v.ps (by omega)) (.fn _ _ _ _ rfl rfl) rfl rfl rfl rfl rfl ?_)), trivial⟩
  change AU _ _ _ _ _ _ _ _
  refine Qf [12] (by kernel_rfl) rfl ⟨.inr (.inr (Qe hN2 rfl rfl rfl rfl (by simp) rfl rfl (by rfl) (by simp [Qg]; omega) rfl rfl rfl rfl ?_)), trivial⟩
  change AU _ _ _ _ _ _ _ _
  refine Qf [13] (by kernel_rfl) rfl ⟨.inr (.inr (Xg hN2 rfl rfl rfl rfl rfl (XT 44 3 50 4 rfl rfl rfl rfl (by decide) (by decide) (by simp) (QV (XA (fun _ => rfl) _) (by rfl)) (Xn (JB (fun _ => rfl) _) (by intro e he; simp [Qg] at he; subst he; rfl)) (by simp) (QV (QS _) (by rfl)) (Xn (Qp _) (by intro e he; simp [Qg] at he; subst he; rfl)) rfl) (XB rfl rfl rfl) ?_)), trivial⟩
  change AU _ _ _ _ _ _ _ _
  refine Qf [14] (by kernel_rfl) rfl ⟨.inl (Qx rfl ?_), trivial⟩
  refine X1 hN2 (Qj rfl rfl rfl rfl (by exact rfl) (by decide) (by decide)) rfl rfl rfl rfl ?_
  change AU _ _ _ _ _ _ _ _
  refine Qf [15] (by kernel_rfl) rfl ⟨.inr (.inr (Qe hN2 rfl rfl rfl rfl (by simp) rfl rfl (by rfl) (by rw [List.length_map, hdl]; simp [Qg]; omega) rfl rfl rfl rfl ?_)), trivial⟩
  change AU _ _ _ _ _ _ _ _
  refine Xy 16 rfl (by kernel_rfl) (by kernel_rfl) rfl (Q9 hN2 rfl rfl rfl rfl rfl rfl) ?_; refine yD ?_; change J5 _ _ _ _  _
  refine QC ?_; refine Qb ?_
  exact ⟨⟨j + 1, ltj, trivial⟩, Qa rfl (QR (QR ⟨(Kq (by rw [QD hjq]; simp [Qg])), rfl, (Xl ⟨(QE (by dsimp only; omega)), rfl, trivial⟩)⟩)) ⟨(Yl (by rw [QD hjq, List.map_append, List.map_cons, List.map_nil, ← Jl]; rfl)), rfl, (Qw _), trivial⟩, by dsimp only; omega⟩
 refine X1 hN2 (Qj rfl rfl rfl rfl (by exact rfl) (by decide) (by decide)) rfl rfl rfl rfl ?_
 change AU _ _ _ _ _ _ _ _
 refine Qf [3, 5] (by kernel_rfl) rfl ⟨.inr (.inr (Q1 hN2 rfl rfl (Kn v.nm (by omega)) (.fn _ _ _ _ rfl rfl) rfl rfl rfl rfl rfl ?_)), .inl (Qx rfl ?_), trivial⟩
 ·
  change AU _ _ _ _ _ _ _ _
  refine Qf [5] (by kernel_rfl) rfl ⟨.inl (Qx rfl ?_), trivial⟩
  refine X1 hN2 (Qj rfl rfl rfl rfl (by exact rfl) (by decide) (by decide)) rfl rfl rfl rfl ?_
  change AU _ _ _ _ _ _ _ _
  refine Qf [6] (by kernel_rfl) rfl ⟨.inr (.inr (Qe hN2 rfl rfl rfl rfl (by simp) rfl rfl (by rfl) (by simp [Qg]; omega) rfl rfl rfl rfl ?_)), trivial⟩
  change AU _ _ _ _ _ _ _ _
  refine Qf [9] (by kernel_rfl) rfl ⟨.inr (.inr (Q1 hN2 rfl rfl (QZ v.ps (by omega)) (.fn _ _ _ _ rfl rfl) rfl rfl rfl rfl rfl ?_)), trivial⟩
  change AU _ _ _ _ _ _ _ _
  refine Qf [12] (by kernel_rfl) rfl ⟨.inr (.inr (Qe hN2 rfl rfl rfl rfl (by simp) rfl rfl (by rfl) (by simp [Qg]; omega) rfl rfl rfl rfl ?_)), trivial⟩
  change AU _ _ _ _ _ _ _ _
  refine Qf [13] (by kernel_rfl) rfl ⟨.inr (.inr (Xg hN2 rfl rfl rfl rfl rfl (XT 44 3 50 4 rfl rfl rfl rfl (by decide) (by decide) (by simp) (QV (XA (fun _ => rfl) _) (by rfl)) (Xn (JB (fun _ => rfl) _) (by intro e he; simp [Qg] at he; subst he; rfl)) (by simp) (QV (QS _) (by rfl)) (Xn (Qp _) (by intro e he; simp [Qg] at he; subst he; rfl)) rfl) (XB rfl rfl rfl) ?_)), trivial⟩
  change AU _ _ _ _ _ _ _ _
  refine Qf [14] (by kernel_rfl) rfl ⟨.inl (Qx rfl ?_), trivial⟩
  refine X1 hN2 (Qj rfl rfl rfl rfl (by exact rfl) (by decide) (by decide)) rfl rfl rfl rfl ?_
  change AU _ _ _ _ _ _ _ _
  refine Qf [15] (by kernel_rfl) rfl ⟨.inr (.inr (Qe hN2 rfl rfl rfl rfl (by simp) rfl rfl (by rfl) (by rw [List.length_map, hdl]; simp [Qg]; omega) rfl rfl rfl rfl ?_)), trivial⟩
  change AU _ _ _ _ _ _ _ _
  refine Xy 16 rfl (by kernel_rfl) (by kernel_rfl) rfl (Q9 hN2 rfl rfl rfl rfl rfl rfl) ?_; refine yD ?_; change J5 _ _ _ _  _
  refine QC ?_; refine Qb ?_
  exact ⟨⟨j + 1, ltj, trivial⟩, Qa rfl (QR (QR ⟨(Kq (by rw [QD hjq]; simp [Qg])), rfl, (Xl ⟨(QE (by dsimp only; omega)), rfl, trivial⟩)⟩)) ⟨(Yl (by rw [QD hjq, List.map_append, List.map_cons, List.map_nil, ← Jl]; rfl)), rfl, (Qw _), trivial⟩, by dsimp only; omega⟩
 refine X1 hN2 (Qj rfl rfl rfl rfl (by exact rfl) (by decide) (by decide)) rfl rfl rfl rfl ?_
 change AU _ _ _ _ _ _ _ _
 refine Qf [3] (by kernel_rfl) rfl ⟨.inr (.inr (Q1 hN2 rfl rfl (Kn v.nm (by omega)) (.fn _ _ _ _ rfl rfl) rfl rfl rfl rfl rfl ?_)), trivial⟩
 change AU _ _ _ _ _ _ _ _
 refine Qf [6] (by kernel_rfl) rfl ⟨.inr (.inr (Qe hN2 rfl rfl rfl rfl (by simp) rfl rfl (by rfl) (by simp [Qg]; omega) rfl rfl rfl rfl ?_)), trivial⟩
 change AU _ _ _ _ _ _ _ _
 refine Qf [9] (by kernel_rfl) rfl ⟨.inr (.inr (Q1 hN2 rfl rfl (QZ v.ps (by omega)) (.fn _ _ _ _ rfl rfl) rfl rfl rfl rfl rfl ?_)), trivial⟩
 change AU _ _ _ _ _ _ _ _
 refine Qf [12] (by kernel_rfl) rfl ⟨.inr (.inr (Qe hN2 rfl rfl rfl rfl (by simp) rfl rfl (by rfl) (by simp [Qg]; omega) rfl rfl rfl rfl ?_)), trivial⟩
 change AU _ _ _ _ _ _ _ _
 refine Qf [13] (by kernel_rfl) rfl ⟨.inr (.inr (Xg hN2 rfl rfl rfl rfl rfl (XT 44 3 50 4 rfl rfl rfl rfl (by decide) (by decide) (by simp) (QV (XA (fun _ => rfl) _) (by rfl)) (Xn (JB (fun _ => rfl) _) (by intro e he; simp [Qg] at he; subst he; rfl)) (by simp) (QV (QS _) (by rfl)) (Xn (Qp _) (by intro e he; simp [Qg] at he; subst he; rfl)) rfl) (XB rfl rfl rfl) ?_)), trivial⟩
 change AU _ _ _ _ _ _ _ _
 refine Qf [14] (by kernel_rfl) rfl ⟨.inl (Qx rfl ?_), trivial⟩
 refine X1 hN2 (Qj rfl rfl rfl rfl (by exact rfl) (by decide) (by decide)) rfl rfl rfl rfl ?_
 change AU _ _ _ _ _ _ _ _
 refine Qf [15] (by kernel_rfl) rfl ⟨.inr (.inr (Qe hN2 rfl rfl rfl rfl (by simp) rfl rfl (by rfl) (by rw [List.length_map, hdl]; simp [Qg]; omega) rfl rfl rfl rfl ?_)), trivial⟩
 change AU _ _ _ _ _ _ _ _
 refine Xy 16 rfl (by kernel_rfl) (by kernel_rfl) rfl (Q9 hN2 rfl rfl rfl rfl rfl rfl) ?_; refine yD ?_; change J5 _ _ _ _  _
 refine QC ?_; refine Qb ?_
 exact ⟨⟨j + 1, ltj, trivial⟩, Qa rfl (QR (QR ⟨(Kq (by rw [QD hjq]; simp [Qg])), rfl, (Xl ⟨(QE (by dsimp only; omega)), rfl, trivial⟩)⟩)) ⟨(Yl (by rw [QD hjq, List.map_append, List.map_cons, List.map_nil, ← Jl]; rfl)), rfl, (Qw _), trivial⟩, by dsimp only; omega⟩
theorem Qrb (l : Qs) (v : Qn) (hc : Q0 l = 0) : FC Tryz.prog 76 [.agg (QF l), .agg (Xm v)] (bl (eqV v (QL l))) := by
 refine Qd [4] Tryz.func76 rfl rfl 14 Tryz.ntmps76 (Nat.le_of_ble_eq_true rfl) ?_
 intro E hN
 refine Xz ?_; refine Qy 9 (by kernel_rfl) (by kernel_rfl) ?_; refine zl ?_
 refine zp (Qc (by have h := Wx l; rw [hc] at h; exact h) rfl rfl rfl) ?_
 refine QJ ?_; refine zp (Qc (Qdn l (QP hc)) rfl rfl rfl) ?_; refine zp (Qc (Qhr _ _) rfl rfl rfl) ?_; refine KO ?_
 change Qz _ _ _ _ _ _; refine zS ?_; refine zQ ?_
 rfl
theorem Qoh (l a : Qs) (hp : l.ps = [a]) (hc : Q0 a = 0) (v : Qn) : FC Tryz.prog 75 [.agg (Xm v), .el (QF l)] (bl (eqV v (QL a))) := by
 refine Qd [3] Tryz.func75 rfl rfl 10 Tryz.ntmps75 (Nat.le_of_ble_eq_true rfl) ?_
 intro E hN
 refine Je ?_; refine Qy 6 (by kernel_rfl) (by kernel_rfl) ?_; refine QO ?_
 refine zp (Qh rfl rfl rfl 0 rfl _ (Xt (show l.ps[0]? = some a by rw [hp]; rfl)) rfl) ?_
 refine QO ?_; refine zp (Qc (Qrb a v hc) rfl rfl rfl) ?_; change Qz _ _ _ _ _ _; refine zS ?_; refine zQ ?_
 rfl
end Go.Proofs.YtaecccdkjmipeaaGreat
