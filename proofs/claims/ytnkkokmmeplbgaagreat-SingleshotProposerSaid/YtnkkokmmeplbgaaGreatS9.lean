/-
  Contracts of the reference: the proposer, at any state: Rece
-/
import Derived.Test.YtnkkokmmeplbgaaGreatS8
namespace Go.Proofs.YtnkkokmmeplbgaaGreat
set_option maxRecDepth 100000
set_option maxHeartbeats 1000000
open Go.RowKit
theorem QpM (l : QD) (r : Rr) (b : JR) (hne : ¬ J2 l r b = 0) : GX Tryz.prog 28 [.ptr QB 0, .agg (Jx b)] (rrH l r) (i64 (J2 l r b)) (rrH l r) 1 := by
 refine YV [4] Tryz.func28 rfl rfl 187 Tryz.ntmps28 (Nat.le_of_ble_eq_true rfl) ?_
 intro E hN
 refine Q4 ?_; refine Qd 36 (by kernel_rfl) (by kernel_rfl) ?_; refine Qv ?_
 refine zd 11 ?_ ?_ <;> intro h6
 ·
  have n2 : b.k ≠ 2 := by simpa using h6
  refine QF ?_
  refine zd 16 ?_ ?_ <;> intro h9
  ·
   have n3 : b.k ≠ 3 := by simpa using h9
   refine QaA ?_; refine Qs ?_; change Qj _ _ _ _ _ _; refine Q4 ?_; refine Qh ?_
   change (Xa _ _).ntt = _ ∧ _
   refine Jq rfl ?_ rfl rfl rfl ⟨rfl, rfl, rfl, rfl, rfl, QJ _, trivial⟩
   rw [J2, if_pos (by omega)]
   rfl
  have k3 : b.k = 3 := by simpa using h9
  refine Qs ?_; refine vP (Xj h9) (Qe rfl rfl rfl) ?_; refine QF ?_
  refine zd 25 ?_ ?_ <;> intro h14
  ·
   have e1 : b.t ≠ r.id := by simpa using h14
   refine QeU ?_; change Qj _ _ _ _ _ _; refine Q4 ?_; refine Qh ?_
   change (Xa _ _).ntt = _ ∧ _
   refine Jq rfl ?_ rfl rfl rfl ⟨rfl, rfl, rfl, rfl, rfl, QJ _, trivial⟩
   rw [J2, if_pos (by omega)]
   rfl
  have e1 : b.t = r.id := by simpa using h14
  refine QF ?_
  refine zd 30 ?_ ?_ <;> intro h17
  ·
   have e2 : b.f < 0 := by simpa using h17
   refine YR ?_; change Qj _ _ _ _ _ _; refine Q4 ?_; refine Qh ?_
   change (Xa _ _).ntt = _ ∧ _
   refine Jq rfl ?_ rfl rfl rfl ⟨rfl, rfl, rfl, rfl, rfl, QJ _, trivial⟩
   rw [J2, if_pos (by omega)]
   rfl
  have e2 : ¬ b.f < 0 := by simpa using h17
  refine Qs ?_; refine vP (Xj h17) (Qe rfl rfl rfl) ?_; refine Qu ?_; refine vP (Xj h17) ((X9 rfl rfl rfl (by rw [List.length_map]))) ?_
  refine Qs ?_
  refine zd 40 ?_ ?_ <;> intro h23
  ·
   have e3 : b.f ≥ r.reps.length := by simpa using h23
   refine Qs ?_; change Qj _ _ _ _ _ _; refine Q4 ?_; refine Qh ?_
   change (Xa _ _).ntt = _ ∧ _
   refine Jq rfl ?_ rfl rfl rfl ⟨rfl, rfl, rfl, rfl, rfl, QJ _, trivial⟩
   rw [J2, if_pos (by omega)]
   rfl
  have e3 : ¬ b.f ≥ r.reps.length := by simpa using h23
  refine Qs ?_; change Qj _ _ _ _ _ _; refine Qu ?_
  refine zq ?_ ?_ <;> intro h26
  ·
   have e4 : b.n < 1 := by simpa using h26
   refine Qv ?_; refine Qh ?_
   change (Xa _ _).ntt = _ ∧ _
   refine Jq rfl ?_ rfl rfl rfl ⟨rfl, rfl, rfl, rfl, rfl, QJ _, trivial⟩
   rw [J2, if_pos (by omega)]
   rfl
  have e4 : ¬ b.n < 1 := by simpa using h26
  have hA : ¬ ((b.k ≠ 2 ∧ b.k ≠ 3) ∨ b.t ≠ r.id ∨ b.f < 0 ∨ b.f ≥ r.reps.length ∨ b.n < 1) := by omega
  have hfl : b.f.toNat < r.reps.length := by omega
  have hget : r.reps[b.f.toNat]? = some (r.reps.getD b.f.toNat 0) := by simp [List.getD, List.getElem?_eq_getElem hfl]
  refine Qs ?_; refine Qd 24 (by kernel_rfl) (by kernel_rfl) ?_; refine Qv ?_
  refine zd 48 ?_ ?_ <;> intro h29
  ·
   exact absurd (show b.k = 2 by simpa using h29) n2
  refine Jv ?_
  refine zd 59 ?_ ?_ <;> intro h32
  rotate_left
  ·
   refine JA ?_; change Qj _ _ _ _ _ _; refine Q8 ?_; refine Qd 23 (by kernel_rfl) (by kernel_rfl) ?_; refine Qs ?_
   refine zp (Qe rfl rfl rfl) ?_; refine Qv ?_
   refine zd 77 ?_ ?_ <;> intro h56
   ·
    have d1 : b.n ≠ r.num := by simpa using h56
    refine QdD ?_; change Qj _ _ _ _ _ _; refine Q4 ?_; refine Qh ?_
    change (Xa _ _).ntt = _ ∧ _
    refine Jq rfl ?_ rfl rfl rfl ⟨rfl, rfl, rfl, rfl, rfl, QJ _, trivial⟩
    rw [J2, if_neg hA, if_neg (by simp_all), if_pos (by simp_all)]
    rfl
   have d1 : b.n = r.num := by simpa using h56
   refine Jk ?_; refine vP (Xj h56) (Qe rfl rfl rfl) ?_; refine Qv ?_
   refine zd 83 ?_ ?_ <;> intro h58
   ·
    have d2 : r.dec = true := h58
    refine JA ?_; change Qj _ _ _ _ _ _; refine Q4 ?_; refine Qh ?_
    change (Xa _ _).ntt = _ ∧ _
    refine Jq rfl ?_ rfl rfl rfl ⟨rfl, rfl, rfl, rfl, rfl, QJ _, trivial⟩
    rw [J2, if_neg hA, if_neg (by simp_all), if_pos (by simp_all)]
    rfl
   have d2 : r.dec = false := h58
   refine Jk ?_; refine vP (Xj h58) (Qe rfl rfl rfl) ?_; refine Qv ?_
   refine vP (Xj h58) (Xg rfl rfl rfl rfl (by rw [List.length_map]) b.f.toNat (by omega) hfl) ?_
   refine vP (Xj h58) (JD rfl rfl r.reps rfl rfl b.f.toNat rfl hget) ?_; refine Jk ?_; change Qj _ _ _ _ _ _; refine Qu ?_
   refine zq ?_ ?_ <;> intro h65
   ·
    have d3 : r.reps.getD b.f.toNat 0 ≠ 0 := by simpa using h65
    refine Qv ?_; refine Qh ?_
    change (Xa _ _).ntt = _ ∧ _
    refine Jq rfl ?_ rfl rfl rfl ⟨rfl, rfl, rfl, rfl, rfl, QJ _, trivial⟩
    rw [J2, if_neg hA, if_neg (by simp_all), if_pos (by simp_all)]
    rfl
   have d3 : r.reps.getD b.f.toNat 0 = 0 := by simpa using h65
   exact absurd (by rw [J2, if_neg hA, if_neg (by simp_all), if_neg (by simp_all)]) hne
  refine Jk ?_; refine vP (XG h32) (Qe rfl rfl rfl) ?_; refine Qv ?_; refine vP (XG h32) (Qc (Y8 l b.v) rfl rfl rfl) ?_
  refine Qu ?_; change Qj _ _ _ _ _ _; refine Qu ?_
  refine zq ?_ ?_ <;> intro h37
  ·
   refine Qv ?_; refine Qh ?_
   change (Xa _ _).ntt = _ ∧ _
   refine Jq rfl ?_ rfl rfl rfl ⟨rfl, rfl, rfl, rfl, rfl, QJ _, trivial⟩
   rw [J2, if_neg hA, if_pos (by simp_all)]
   rfl
  refine Qs ?_; refine Qd 23 (by kernel_rfl) (by kernel_rfl) ?_; refine Qs ?_; refine zp (Qe rfl rfl rfl) ?_; refine Qv ?_
  refine zd 77 ?_ ?_ <;> intro h42
  ·
   have d1 : b.n ≠ r.num := by simpa using h42
   refine QdD ?_; change Qj _ _ _ _ _ _; refine Q4 ?_; refine Qh ?_
   change (Xa _ _).ntt = _ ∧ _
   refine Jq rfl ?_ rfl rfl rfl ⟨rfl, rfl, rfl, rfl, rfl, QJ _, trivial⟩
   rw [J2, if_neg hA, if_neg (by simp_all), if_pos (by simp_all)]
   rfl
  have d1 : b.n = r.num := by simpa using h42
  refine Jk ?_; refine vP (Xj h42) (Qe rfl rfl rfl) ?_; refine Qv ?_
  refine zd 83 ?_ ?_ <;> intro h44
  ·
   have d2 : r.dec = true := h44
   refine JA ?_; change Qj _ _ _ _ _ _; refine Q4 ?_; refine Qh ?_
   change (Xa _ _).ntt = _ ∧ _
   refine Jq rfl ?_ rfl rfl rfl ⟨rfl, rfl, rfl, rfl, rfl, QJ _, trivial⟩
   rw [J2, if_neg hA, if_neg (by simp_all), if_pos (by simp_all)]
   rfl
  have d2 : r.dec = false := h44
  refine Jk ?_; refine vP (Xj h44) (Qe rfl rfl rfl) ?_; refine Qv ?_
  refine vP (Xj h44) (Xg rfl rfl rfl rfl (by rw [List.length_map]) b.f.toNat (by omega) hfl) ?_
  refine vP (Xj h44) (JD rfl rfl r.reps rfl rfl b.f.toNat rfl hget) ?_; refine Jk ?_; change Qj _ _ _ _ _ _; refine Qu ?_
  refine zq ?_ ?_ <;> intro h51
  ·
   have d3 : r.reps.getD b.f.toNat 0 ≠ 0 := by simpa using h51
   refine Qv ?_; refine Qh ?_
   change (Xa _ _).ntt = _ ∧ _
   refine Jq rfl ?_ rfl rfl rfl ⟨rfl, rfl, rfl, rfl, rfl, QJ _, trivial⟩
   rw [J2, if_neg hA, if_neg (by simp_all), if_pos (by simp_all)]
   rfl
  have d3 : r.reps.getD b.f.toNat 0 = 0 := by simpa using h51
  exact absurd (by rw [J2, if_neg hA, if_neg (by simp_all), if_neg (by simp_all)]) hne
 have k2 : b.k = 2 := by simpa using h6
 refine XN ?_; refine zp (Qe rfl rfl rfl) ?_; refine QF ?_
 refine zd 25 ?_ ?_ <;> intro h70
 ·
  have e1 : b.t ≠ r.id := by simpa using h70
  refine QeU ?_; change Qj _ _ _ _ _ _; refine Q4 ?_; refine Qh ?_
  change (Xa _ _).ntt = _ ∧ _
  refine Jq rfl ?_ rfl rfl rfl ⟨rfl, rfl, rfl, rfl, rfl, QJ _, trivial⟩
  rw [J2, if_pos (by omega)]
  rfl
 have e1 : b.t = r.id := by simpa using h70
 refine QF ?_
 refine zd 30 ?_ ?_ <;> intro h73
 ·
  have e2 : b.f < 0 := by simpa using h73
  refine YR ?_; change Qj _ _ _ _ _ _; refine Q4 ?_; refine Qh ?_
  change (Xa _ _).ntt = _ ∧ _
  refine Jq rfl ?_ rfl rfl rfl ⟨rfl, rfl, rfl, rfl, rfl, QJ _, trivial⟩
  rw [J2, if_pos (by omega)]
  rfl
 have e2 : ¬ b.f < 0 := by simpa using h73
 refine Qs ?_; refine vP (Xj h73) (Qe rfl rfl rfl) ?_; refine Qu ?_; refine vP (Xj h73) ((X9 rfl rfl rfl (by rw [List.length_map]))) ?_
 refine Qs ?_
 refine zd 40 ?_ ?_ <;> intro h79
 ·
  have e3 : b.f ≥ r.reps.length := by simpa using h79
  refine Qs ?_; change Qj _ _ _ _ _ _; refine Q4 ?_; refine Qh ?_
  change (Xa _ _).ntt = _ ∧ _
  refine Jq rfl ?_ rfl rfl rfl ⟨rfl, rfl, rfl, rfl, rfl, QJ _, trivial⟩
  rw [J2, if_pos (by omega)]
  rfl
 have e3 : ¬ b.f ≥ r.reps.length := by simpa using h79
 refine Qs ?_; change Qj _ _ _ _ _ _; refine Qu ?_
 refine zq ?_ ?_ <;> intro h82
 ·
  have e4 : b.n < 1 := by simpa using h82
  refine Qv ?_; refine Qh ?_
  change (Xa _ _).ntt = _ ∧ _
  refine Jq rfl ?_ rfl rfl rfl ⟨rfl, rfl, rfl, rfl, rfl, QJ _, trivial⟩
  rw [J2, if_pos (by omega)]
  rfl
 have e4 : ¬ b.n < 1 := by simpa using h82
 have hA : ¬ ((b.k ≠ 2 ∧ b.k ≠ 3) ∨ b.t ≠ r.id ∨ b.f < 0 ∨ b.f ≥ r.reps.length ∨ b.n < 1) := by omega
 have hfl : b.f.toNat < r.reps.length := by omega
 have hget : r.reps[b.f.toNat]? = some (r.reps.getD b.f.toNat 0) := by simp [List.getD, List.getElem?_eq_getElem hfl]
 refine Qs ?_; refine Qd 24 (by kernel_rfl) (by kernel_rfl) ?_; refine Qv ?_
 refine zd 48 ?_ ?_ <;> intro h85
 rotate_left
 ·
  refine Jv ?_
  refine zd 59 ?_ ?_ <;> intro h128
  rotate_left
  ·
   refine JA ?_; change Qj _ _ _ _ _ _; refine Q8 ?_; refine Qd 23 (by kernel_rfl) (by kernel_rfl) ?_; refine Qs ?_
   refine zp (Qe rfl rfl rfl) ?_; refine Qv ?_
   refine zd 77 ?_ ?_ <;> intro h152
   ·
    have d1 : b.n ≠ r.num := by simpa using h152
    refine QdD ?_; change Qj _ _ _ _ _ _; refine Q4 ?_; refine Qh ?_
    change (Xa _ _).ntt = _ ∧ _
    refine Jq rfl ?_ rfl rfl rfl ⟨rfl, rfl, rfl, rfl, rfl, QJ _, trivial⟩
    rw [J2, if_neg hA, if_neg (by simp_all), if_pos (by simp_all)]
    rfl
   have d1 : b.n = r.num := by simpa using h152
   refine Jk ?_; refine vP (Xj h152) (Qe rfl rfl rfl) ?_; refine Qv ?_
   refine zd 83 ?_ ?_ <;> intro h154
   ·
    have d2 : r.dec = true := h154
    refine JA ?_; change Qj _ _ _ _ _ _; refine Q4 ?_; refine Qh ?_
    change (Xa _ _).ntt = _ ∧ _
    refine Jq rfl ?_ rfl rfl rfl ⟨rfl, rfl, rfl, rfl, rfl, QJ _, trivial⟩
    rw [J2, if_neg hA, if_neg (by simp_all), if_pos (by simp_all)]
    rfl
   have d2 : r.dec = false := h154
   refine Jk ?_; refine vP (Xj h154) (Qe rfl rfl rfl) ?_; refine Qv ?_
   refine vP (Xj h154) (Xg rfl rfl rfl rfl (by rw [List.length_map]) b.f.toNat (by omega) hfl) ?_
   refine vP (Xj h154) (JD rfl rfl r.reps rfl rfl b.f.toNat rfl hget) ?_; refine Jk ?_; change Qj _ _ _ _ _ _; refine Qu ?_
   refine zq ?_ ?_ <;> intro h161
   ·
    have d3 : r.reps.getD b.f.toNat 0 ≠ 0 := by simpa using h161
    refine Qv ?_; refine Qh ?_
    change (Xa _ _).ntt = _ ∧ _
    refine Jq rfl ?_ rfl rfl rfl ⟨rfl, rfl, rfl, rfl, rfl, QJ _, trivial⟩
    rw [J2, if_neg hA, if_neg (by simp_all), if_pos (by simp_all)]
    rfl
   have d3 : r.reps.getD b.f.toNat 0 = 0 := by simpa using h161
   exact absurd (by rw [J2, if_neg hA, if_neg (by simp_all), if_neg (by simp_all)]) hne
  refine Jk ?_; refine vP (XG h128) (Qe rfl rfl rfl) ?_; refine Qv ?_; refine vP (XG h128) (Qc (Y8 l b.v) rfl rfl rfl) ?_
  refine Qu ?_; change Qj _ _ _ _ _ _; refine Qu ?_
  refine zq ?_ ?_ <;> intro h133
  ·
   refine Qv ?_; refine Qh ?_
   change (Xa _ _).ntt = _ ∧ _
   refine Jq rfl ?_ rfl rfl rfl ⟨rfl, rfl, rfl, rfl, rfl, QJ _, trivial⟩
   rw [J2, if_neg hA, if_pos (by simp_all)]
   rfl
  refine Qs ?_; refine Qd 23 (by kernel_rfl) (by kernel_rfl) ?_; refine Qs ?_; refine zp (Qe rfl rfl rfl) ?_; refine Qv ?_
  refine zd 77 ?_ ?_ <;> intro h138
  ·
   have d1 : b.n ≠ r.num := by simpa using h138
   refine QdD ?_; change Qj _ _ _ _ _ _; refine Q4 ?_; refine Qh ?_
   change (Xa _ _).ntt = _ ∧ _
   refine Jq rfl ?_ rfl rfl rfl ⟨rfl, rfl, rfl, rfl, rfl, QJ _, trivial⟩
   rw [J2, if_neg hA, if_neg (by simp_all), if_pos (by simp_all)]
   rfl
  have d1 : b.n = r.num := by simpa using h138
  refine Jk ?_; refine vP (Xj h138) (Qe rfl rfl rfl) ?_; refine Qv ?_
  refine zd 83 ?_ ?_ <;> intro h140
  ·
   have d2 : r.dec = true := h140
   refine JA ?_; change Qj _ _ _ _ _ _; refine Q4 ?_; refine Qh ?_
   change (Xa _ _).ntt = _ ∧ _
   refine Jq rfl ?_ rfl rfl rfl ⟨rfl, rfl, rfl, rfl, rfl, QJ _, trivial⟩
   rw [J2, if_neg hA, if_neg (by simp_all), if_pos (by simp_all)]
   rfl
  have d2 : r.dec = false := h140
  refine Jk ?_; refine vP (Xj h140) (Qe rfl rfl rfl) ?_; refine Qv ?_
  refine vP (Xj h140) (Xg rfl rfl rfl rfl (by rw [List.length_map]) b.f.toNat (by omega) hfl) ?_
  refine vP (Xj h140) (JD rfl rfl r.reps rfl rfl b.f.toNat rfl hget) ?_; refine Jk ?_; change Qj _ _ _ _ _ _; refine Qu ?_
  refine zq ?_ ?_ <;> intro h147
  ·
   have d3 : r.reps.getD b.f.toNat 0 ≠ 0 := by simpa using h147
   refine Qv ?_; refine Qh ?_
   change (Xa _ _).ntt = _ ∧ _
   refine Jq rfl ?_ rfl rfl rfl ⟨rfl, rfl, rfl, rfl, rfl, QJ _, trivial⟩
   rw [J2, if_neg hA, if_neg (by simp_all), if_pos (by simp_all)]
   rfl
  have d3 : r.reps.getD b.f.toNat 0 = 0 := by simpa using h147
  exact absurd (by rw [J2, if_neg hA, if_neg (by simp_all), if_neg (by simp_all)]) hne
 refine Qu ?_; refine vP (XG h85) (JS rfl rfl rfl) ?_; refine vP (XG h85) (Qc (Je b.v Qw.zero) rfl rfl rfl) ?_; refine Qs ?_
 refine zd 55 ?_ ?_ <;> intro h89
 ·
  refine YR ?_; change Qj _ _ _ _ _ _; refine Q4 ?_; refine Qh ?_
  change (Xa _ _).ntt = _ ∧ _
  refine Jq rfl ?_ rfl rfl rfl ⟨rfl, rfl, rfl, rfl, rfl, QJ _, trivial⟩
  rw [J2, if_neg hA, if_pos (by simp_all)]
  rfl
 refine Qv ?_
 refine zd 59 ?_ ?_ <;> intro h92
 rotate_left
 ·
  refine XN ?_; refine vP (Xj (m1 (n0 h89))) (Xw rfl rfl h92 rfl) ?_; change Qj _ _ _ _ _ _; refine Q8 ?_
  refine Qd 23 (by kernel_rfl) (by kernel_rfl) ?_; refine Qs ?_; refine zp (Qe rfl rfl rfl) ?_; refine Qv ?_
  refine zd 77 ?_ ?_ <;> intro h116
  ·
   have d1 : b.n ≠ r.num := by simpa using h116
   refine QdD ?_; change Qj _ _ _ _ _ _; refine Q4 ?_; refine Qh ?_
   change (Xa _ _).ntt = _ ∧ _
   refine Jq rfl ?_ rfl rfl rfl ⟨rfl, rfl, rfl, rfl, rfl, QJ _, trivial⟩
   rw [J2, if_neg hA, if_neg (by simp_all), if_pos (by simp_all)]
   rfl
  have d1 : b.n = r.num := by simpa using h116
  refine Jk ?_; refine vP (Xj h116) (Qe rfl rfl rfl) ?_; refine Qv ?_
  refine zd 83 ?_ ?_ <;> intro h118
  ·
   have d2 : r.dec = true := h118
   refine JA ?_; change Qj _ _ _ _ _ _; refine Q4 ?_; refine Qh ?_
   change (Xa _ _).ntt = _ ∧ _
   refine Jq rfl ?_ rfl rfl rfl ⟨rfl, rfl, rfl, rfl, rfl, QJ _, trivial⟩
   rw [J2, if_neg hA, if_neg (by simp_all), if_pos (by simp_all)]
   rfl
  have d2 : r.dec = false := h118
  refine Jk ?_; refine vP (Xj h118) (Qe rfl rfl rfl) ?_; refine Qv ?_
  refine vP (Xj h118) (Xg rfl rfl rfl rfl (by rw [List.length_map]) b.f.toNat (by omega) hfl) ?_
  refine vP (Xj h118) (JD rfl rfl r.reps rfl rfl b.f.toNat rfl hget) ?_; refine Jk ?_; change Qj _ _ _ _ _ _; refine Qu ?_
  refine zq ?_ ?_ <;> intro h125
  ·
   have d3 : r.reps.getD b.f.toNat 0 ≠ 0 := by simpa using h125
   refine Qv ?_; refine Qh ?_
   change (Xa _ _).ntt = _ ∧ _
   refine Jq rfl ?_ rfl rfl rfl ⟨rfl, rfl, rfl, rfl, rfl, QJ _, trivial⟩
   rw [J2, if_neg hA, if_neg (by simp_all), if_pos (by simp_all)]
   rfl
  have d3 : r.reps.getD b.f.toNat 0 = 0 := by simpa using h125
  exact absurd (by rw [J2, if_neg hA, if_neg (by simp_all), if_neg (by simp_all)]) hne
 refine Jk ?_; refine vP (XG h92) (Qe rfl rfl rfl) ?_; refine Qv ?_; refine vP (XG h92) (Qc (Y8 l b.v) rfl rfl rfl) ?_
 refine Jk ?_; refine vP (Xj (m1 (n0 h89))) (Xu rfl rfl h92 rfl) ?_; change Qj _ _ _ _ _ _; refine Qu ?_
 refine zq ?_ ?_ <;> intro h97
 ·
  refine Qv ?_; refine Qh ?_
  change (Xa _ _).ntt = _ ∧ _
  refine Jq rfl ?_ rfl rfl rfl ⟨rfl, rfl, rfl, rfl, rfl, QJ _, trivial⟩
  rw [J2, if_neg hA, if_pos (by simp_all)]
  rfl
 refine Qs ?_; refine Qd 23 (by kernel_rfl) (by kernel_rfl) ?_; refine Qs ?_; refine zp (Qe rfl rfl rfl) ?_; refine Qv ?_
 refine zd 77 ?_ ?_ <;> intro h102
 ·
  have d1 : b.n ≠ r.num := by simpa using h102
  refine QdD ?_; change Qj _ _ _ _ _ _; refine Q4 ?_; refine Qh ?_
  change (Xa _ _).ntt = _ ∧ _
  refine Jq rfl ?_ rfl rfl rfl ⟨rfl, rfl, rfl, rfl, rfl, QJ _, trivial⟩
  rw [J2, if_neg hA, if_neg (by simp_all), if_pos (by simp_all)]
  rfl
 have d1 : b.n = r.num := by simpa using h102
 refine Jk ?_; refine vP (Xj h102) (Qe rfl rfl rfl) ?_; refine Qv ?_
 refine zd 83 ?_ ?_ <;> intro h104
 ·
  have d2 : r.dec = true := h104
  refine JA ?_; change Qj _ _ _ _ _ _; refine Q4 ?_; refine Qh ?_
  change (Xa _ _).ntt = _ ∧ _
  refine Jq rfl ?_ rfl rfl rfl ⟨rfl, rfl, rfl, rfl, rfl, QJ _, trivial⟩
  rw [J2, if_neg hA, if_neg (by simp_all), if_pos (by simp_all)]
  rfl
 have d2 : r.dec = false := h104
 refine Jk ?_; refine vP (Xj h104) (Qe rfl rfl rfl) ?_; refine Qv ?_
 refine vP (Xj h104) (Xg rfl rfl rfl rfl (by rw [List.length_map]) b.f.toNat (by omega) hfl) ?_
 refine vP (Xj h104) (JD rfl rfl r.reps rfl rfl b.f.toNat rfl hget) ?_; refine Jk ?_; change Qj _ _ _ _ _ _; refine Qu ?_
 refine zq ?_ ?_ <;> intro h111
 ·
  have d3 : r.reps.getD b.f.toNat 0 ≠ 0 := by simpa using h111
  refine Qv ?_; refine Qh ?_
  change (Xa _ _).ntt = _ ∧ _
  refine Jq rfl ?_ rfl rfl rfl ⟨rfl, rfl, rfl, rfl, rfl, QJ _, trivial⟩
  rw [J2, if_neg hA, if_neg (by simp_all), if_pos (by simp_all)]
  rfl
 have d3 : r.reps.getD b.f.toNat 0 = 0 := by simpa using h111
 exact absurd (by rw [J2, if_neg hA, if_neg (by simp_all), if_neg (by simp_all)]) hne
theorem Kb {st : St} {i : Nat} {x : Operand} {rest : List (Nat × Operand)} {y : AV} {ys : List AV} {ps : List (Nat × List AV)} (hy : Jh st x = some y) (hc : st.cells1 y = some ys) (h : QbI st rest = some ps) : QbI st ((i, x) :: rest) = some ((i, ys) :: ps) := by
 simp only [QbI, hy, Option.bind_some, hc, h]
theorem Qj3 {s : Rr} (h : (K0 s : Int) ≥ s.q) : Qa0 s = { s with dec := true } := if_pos h
theorem Qhz {s : Rr} (h : ¬ (K0 s : Int) ≥ s.q) (h2 : ¬ (QbN s : Int) ≥ s.q) : Qa0 s = s := by rw [Qa0, if_neg h, if_neg h2]
theorem Qkk {s : Rr} (h : ¬ (K0 s : Int) ≥ s.q) (h2 : (QbN s : Int) ≥ s.q) : Qa0 s = { s with v := s.more, num := s.num + 1, reps := List.replicate s.reps.length 0 } := by rw [Qa0, if_neg h, if_pos h2]
theorem QiD {l : QD} {r : Rr} {b : JR} : (Yc l r b).reps.length = r.reps.length := by unfold Yc; exact List.length_set
theorem Qnv (l : QD) (r : Rr) (b : JR) (hck : J2 l r b = 0) (h12 : r.reps.length ≤ 12) (hk : b.k = 2) (h18 : ¬ (K0 (Yc l r b) : Int) ≥ (Yc l r b).q) (h20 : (QbN (Yc l r b) : Int) ≥ (Yc l r b).q) (hnum : 0 ≤ (Yc l r b).num ∧ (Yc l r b).num ≤ 1000000) : GX Tryz.prog 28 [.ptr QB 0, .agg (Jx b)] (rrH l r) (i64 0) [(QB, .var 48 (rrC l (Qa0 (Yc l r b)) (.own 1 r.reps.length))), (QB + 1, .arr 3 1 ((Yc l r b).reps.map iv1)), (1, .arr 3 1 ((Qa0 (Yc l r b)).reps.map iv1))] 2 := by
 obtain ⟨hkk, e1, e2, e3, e4, hq2, hq3, d1, d2, d3⟩ := QfP hck
 have hfl : b.f.toNat < r.reps.length := by omega
 have hget : r.reps[b.f.toNat]? = some 0 := by rw [← d3]; simp [List.getD, List.getElem?_eq_getElem hfl]
 obtain ⟨rs, hrs⟩ : ∃ rs, rs = r.reps.set b.f.toNat b.k := ⟨_, rfl⟩
 have hrl : rs.length = r.reps.length := by rw [hrs, List.length_set]
 have htq : (Yc l r b).q = r.q := by unfold Yc; rfl
 refine YV [4] Tryz.func28 rfl rfl 187 Tryz.ntmps28 (Nat.le_of_ble_eq_true rfl) ?_
 intro E hN
 refine Q4 ?_; refine Qd 36 (by kernel_rfl) (by kernel_rfl) ?_; refine Qu ?_; refine zp (QC (b := false) rfl rfl rfl (by simp [hk])) ?_
 refine JA ?_; refine zp (Qe rfl rfl rfl) ?_; refine Qu ?_; refine zp (QC (b := false) rfl rfl rfl (by simp [e1])) ?_; refine Qv ?_
 refine zp (QC (b := false) rfl rfl rfl (by simp; omega)) ?_
 refine QF ?_; refine zp (Qe rfl rfl rfl) ?_; refine Qu ?_; refine zp ((X9 rfl rfl rfl (by rw [List.length_map]))) ?_
 refine zp (QC (b := false) rfl rfl rfl (by simp; omega)) ?_
 refine Qv ?_
 refine zp (QC (b := false) rfl rfl rfl (by simp; omega)) ?_
 change Qj _ _ _ _ _ _; refine Q8 ?_; refine Qd 24 (by kernel_rfl) (by kernel_rfl) ?_; refine Qu ?_
 refine zp (QC (b := true) rfl rfl rfl (by simp [hk])) ?_; refine Qs ?_; refine zp (JS rfl rfl rfl) ?_
 refine zp (Qc (fcb (c := true) (Je b.v Qw.zero) (hq2 hk)) rfl rfl rfl) ?_; refine QF ?_
 refine zp (QC (b := false) rfl rfl rfl (by simp [hk])) ?_; refine XB ?_; change Qj _ _ _ _ _ _; refine Q8 ?_
 refine Qd 23 (by kernel_rfl) (by kernel_rfl) ?_; refine Qs ?_; refine zp (Qe rfl rfl rfl) ?_; refine Qu ?_
 refine zp (QC (b := false) rfl rfl rfl (by simp [d1])) ?_; refine Qu ?_; refine zp (Qe rfl rfl rfl) ?_; refine Qv ?_
 refine zd 83 ?_ ?_ <;> intro h31
 ·
  exact absurd h31 (by rw [d2]; decide)
 refine Jk ?_; refine vP (Xj h31) (Qe rfl rfl rfl) ?_; refine Qv ?_
 refine vP (Xj h31) (Xg rfl rfl rfl rfl (by rw [List.length_map]) b.f.toNat (by omega) hfl) ?_
 refine vP (Xj h31) (JD rfl rfl r.reps rfl rfl b.f.toNat rfl hget) ?_; refine vP (Xj h31) (QC (b := false) rfl rfl rfl (by simp)) ?_
 change Qj _ _ _ _ _ _; refine QF ?_; refine Qd 9 (by kernel_rfl) (by kernel_rfl) ?_; refine zm ?_; refine zp (Qe rfl rfl rfl) ?_
 refine Q8 ?_; refine zp (Xg rfl rfl rfl rfl (by rw [List.length_map]) b.f.toNat (by omega) hfl) ?_; change Qj _ _ _ _ _ _
 refine QdP hN rfl rfl rfl (by rw [List.length_map]) b.f.toNat rfl (by rw [List.length_map]; exact hfl) rfl rfl rfl rfl (Qjb _) rfl rfl rfl (Qee.trans (congrArg _ hrs.symm)) ?_
 refine Q8 ?_; refine zP (QC (b := false) rfl rfl rfl (by simp [hk])) ?_; refine Ki ?_
 refine Ql (fun x : {k : Nat // k ≤ r.reps.length} => ⟨[(0, .ptr QB 0), (5, i64 ((rs.take x.1).countP (· == 2) : Nat)), (6, i64 ((rs.take x.1).countP (· != 0) : Nat)), (7, i64 (x.1 : Nat))], [(QB, .var 48 (rrC l (Yc l r b) (.own (QB + 1) r.reps.length))), (QB + 1, .arr 3 1 (rs.map iv1))], 1⟩) (fun x => r.reps.length - x.1) (⟨0, Nat.zero_le _⟩) ?_ ?_
 ·
  exact Qa rfl (JH trivial) ⟨(by rw [QaL hk]; rfl), rfl, rfl, rfl, rfl, (QJ _), trivial⟩
 rintro ⟨k, hk0⟩
 dsimp only
 refine QF ?_; refine zP (Qe rfl rfl rfl) ?_; refine Qu ?_; refine zP ((X9 rfl rfl rfl (by rw [List.length_map, hrl]))) ?_; refine Qu ?_
 refine zq ?_ ?_ <;> intro h55
 rotate_left
 ·
  have hge : r.reps.length ≤ k := by simpa using h55
  obtain rfl : k = rs.length := by omega
  rw [List.take_length]
  have hA1 : rs.countP (· == 2) = K0 (Yc l r b) := by rw [QaL hk, hrs]; rfl
  have hA2 : rs.countP (· != 0) = QbN (Yc l r b) := by rw [QaL hk, hrs]; rfl
  have hRs : rs = (Yc l r b).reps := by rw [QaL hk, hrs]
  rw [hA1, hA2]
  refine Qs ?_
  rw [Qkk h18 h20]
  refine Qs ?_; refine zP (Qe rfl rfl rfl) ?_; refine Qu ?_; refine zP (QC (b := false) rfl rfl rfl (by simpa using h18)) ?_; refine Q8 ?_
  refine zP (Qe rfl rfl rfl) ?_; refine Qu ?_; refine zP (QC (b := true) rfl rfl rfl (by simpa using h20)) ?_; refine Q8 ?_
  refine zP (Qe rfl rfl rfl) ?_; refine Qu ?_; refine zP (Qe rfl rfl rfl) ?_; refine Q8 ?_; refine zP (Qe rfl rfl rfl) ?_; refine Qu ?_
  refine zP (QZ rfl rfl rfl (by first | omega | (dsimp only; omega))) ?_
  refine zP (Qe rfl rfl rfl) ?_; refine Q8 ?_; refine zP (Qe rfl rfl rfl) ?_; refine Qu ?_
  refine zP ((X9 rfl rfl rfl (by rw [List.length_map, hrl]))) ?_
  refine Ql4 hN rfl (k := 1) (zs := [.int .i64 0]) rfl (y := 8) (by kernel_rfl) rfl rfl (n := r.reps.length) rfl rfl (by omega) rfl rfl rfl rfl ?_
  refine zP (Qe rfl rfl rfl) ?_; refine zF ?_
  refine Qeb rfl rfl rfl rfl (XS rfl (by simp)) rfl (Nat.le_of_ble_eq_true rfl) rfl rfl rfl rfl ?_; refine QF ?_; refine Qh ?_
  change (Xa _ _).ntt = _ ∧ _
  refine Jq rfl ?_ rfl rfl rfl ⟨rfl, rfl, rfl, (by rw [hRs]; rfl), rfl, QJ _, (by rw [QiD, List.map_replicate]; rfl), rfl, QJ _, trivial⟩
  rfl
 have hlt : k < r.reps.length := by simpa using h55
 obtain ⟨y, hx⟩ := Qn (show k < rs.length by omega)
 have hcl1 : (rs.take k).countP (· == 2) ≤ 12 := by have := List.countP_le_length (p := (· == 2)) (l := rs.take k); rw [List.length_take] at this; omega
 have hcl2 : (rs.take k).countP (· != 0) ≤ 12 := by have := List.countP_le_length (p := (· != 0)) (l := rs.take k); rw [List.length_take] at this; omega
 refine Q4 ?_; refine zP (Qe rfl rfl rfl) ?_; refine Qs ?_; refine zP (Xg rfl rfl rfl rfl (by rw [List.length_map, hrl]) k rfl hlt) ?_
 refine zP (JD rfl rfl rs rfl hrl.symm k rfl hx) ?_; refine Qu ?_
 refine zq ?_ ?_ <;> intro h60
 ·
  have y2 : (y == 2) = true := by simpa using h60
  refine Qu ?_
  refine zP (QZ rfl rfl rfl (by first | omega | (dsimp only; omega))) ?_
  refine QF ?_; refine zP (Qe rfl rfl rfl) ?_; refine Qs ?_; refine zP (Xg rfl rfl rfl rfl (by rw [List.length_map, hrl]) k rfl hlt) ?_
  refine zP (JD rfl rfl rs rfl hrl.symm k rfl hx) ?_; refine Qu ?_
  refine zq ?_ ?_ <;> intro h66
  ·
   have y0 : (y != 0) = true := by simpa using h66
   refine Qu ?_
   refine zP (QZ rfl rfl rfl (by first | omega | (dsimp only; omega))) ?_
   refine Qv ?_
   refine zP (QZ rfl rfl rfl (by first | omega | (dsimp only; omega))) ?_
   refine zS ?_; refine Qb ?_
   exact ⟨⟨k + 1, hlt⟩, Qa rfl (Xv ⟨(Q0 (by dsimp only; rw [Xr hx, y2]; simp)), rfl, (Q0 (by dsimp only; rw [Xr hx, y0]; simp)), rfl, (Q0 (by dsimp only; omega)), rfl, trivial⟩) ⟨rfl, rfl, rfl, rfl, rfl, (QJ _), trivial⟩, by dsimp only; omega⟩
  have y0 : (y != 0) = false := by simpa using h66
  refine Qs ?_
  refine zP (QZ rfl rfl rfl (by first | omega | (dsimp only; omega))) ?_
  refine zS ?_; refine Qb ?_
  exact ⟨⟨k + 1, hlt⟩, Qa rfl (Xv ⟨(Q0 (by dsimp only; rw [Xr hx, y2]; simp)), rfl, (Q0 (by dsimp only; rw [Xr hx, y0]; simp)), rfl, (Q0 (by dsimp only; omega)), rfl, trivial⟩) ⟨rfl, rfl, rfl, rfl, rfl, (QJ _), trivial⟩, by dsimp only; omega⟩
 have y2 : (y == 2) = false := by simpa using h60
 refine Qv ?_; refine zP (Qe rfl rfl rfl) ?_; refine Qs ?_; refine zP (Xg rfl rfl rfl rfl (by rw [List.length_map, hrl]) k rfl hlt) ?_
 refine zP (JD rfl rfl rs rfl hrl.symm k rfl hx) ?_; refine Qu ?_
 refine zq ?_ ?_ <;> intro h74
 ·
  have y0 : (y != 0) = true := by simpa using h74
  refine Qu ?_
  refine zP (QZ rfl rfl rfl (by first | omega | (dsimp only; omega))) ?_
  refine Qv ?_
  refine zP (QZ rfl rfl rfl (by first | omega | (dsimp only; omega))) ?_
  refine zS ?_; refine Qb ?_
  exact ⟨⟨k + 1, hlt⟩, Qa rfl (Xv ⟨(Q0 (by dsimp only; rw [Xr hx, y2]; simp)), rfl, (Q0 (by dsimp only; rw [Xr hx, y0]; simp)), rfl, (Q0 (by dsimp only; omega)), rfl, trivial⟩) ⟨rfl, rfl, rfl, rfl, rfl, (QJ _), trivial⟩, by dsimp only; omega⟩
 have y0 : (y != 0) = false := by simpa using h74
 refine Qs ?_
 refine zP (QZ rfl rfl rfl (by first | omega | (dsimp only; omega))) ?_
 refine zS ?_; refine Qb ?_
 exact ⟨⟨k + 1, hlt⟩, Qa rfl (Xv ⟨(Q0 (by dsimp only; rw [Xr hx, y2]; simp)), rfl, (Q0 (by dsimp only; rw [Xr hx, y0]; simp)), rfl, (Q0 (by dsimp only; omega)), rfl, trivial⟩) ⟨rfl, rfl, rfl, rfl, rfl, (QJ _), trivial⟩, by dsimp only; omega⟩
theorem Qnt (l : QD) (r : Rr) (b : JR) (hck : J2 l r b = 0) (h12 : r.reps.length ≤ 12) (hk : b.k = 3) (hc : Xp l = 0) (hm : Qt r.more l = true) (hbe : Qt b.v l = true) {n : Nat} (hn : n ≤ 900000) (sm : J6 n r.more) (sb : J6 40 b.v) (h18 : ¬ (K0 (Yc l r b) : Int) ≥ (Yc l r b).q) (h20 : (QbN (Yc l r b) : Int) ≥ (Yc l r b).q) (hnum : 0 ≤ (Yc l r b).num ∧ (Yc l r b).num ≤ 1000000) : GX Tryz.prog 28 [.ptr QB 0, .agg (Jx b)] (rrH l r) (i64 0) [(QB, .var 48 (rrC l (Qa0 (Yc l r b)) (.own 1 r.reps.length))), (QB + 1, .arr 3 1 ((Yc l r b).reps.map iv1)), (1, .arr 3 1 ((Qa0 (Yc l r b)).reps.map iv1))] 2 := by
 obtain ⟨hkk, e1, e2, e3, e4, hq2, hq3, d1, d2, d3⟩ := QfP hck
 have hfl : b.f.toNat < r.reps.length := by omega
 have hget : r.reps[b.f.toNat]? = some 0 := by rw [← d3]; simp [List.getD, List.getElem?_eq_getElem hfl]
 obtain ⟨rs, hrs⟩ : ∃ rs, rs = r.reps.set b.f.toNat b.k := ⟨_, rfl⟩
 have hrl : rs.length = r.reps.length := by rw [hrs, List.length_set]
 have htq : (Yc l r b).q = r.q := by unfold Yc; rfl
 refine YV [4] Tryz.func28 rfl rfl 187 Tryz.ntmps28 (Nat.le_of_ble_eq_true rfl) ?_
 intro E hN
 refine Q4 ?_; refine Qd 36 (by kernel_rfl) (by kernel_rfl) ?_; refine Qu ?_; refine zp (QC (b := true) rfl rfl rfl (by simp [hk])) ?_
 refine Qs ?_; refine zp (QC (b := false) rfl rfl rfl (by simp [hk])) ?_; refine QF ?_; refine zp (Qe rfl rfl rfl) ?_; refine Qu ?_
 refine zp (QC (b := false) rfl rfl rfl (by simp [e1])) ?_; refine Qv ?_
 refine zp (QC (b := false) rfl rfl rfl (by simp; omega)) ?_
 refine QF ?_; refine zp (Qe rfl rfl rfl) ?_; refine Qu ?_; refine zp ((X9 rfl rfl rfl (by rw [List.length_map]))) ?_
 refine zp (QC (b := false) rfl rfl rfl (by simp; omega)) ?_
 refine Qv ?_
 refine zp (QC (b := false) rfl rfl rfl (by simp; omega)) ?_
 change Qj _ _ _ _ _ _; refine Q8 ?_; refine Qd 24 (by kernel_rfl) (by kernel_rfl) ?_; refine Qu ?_
 refine zp (QC (b := false) rfl rfl rfl (by simp [hk])) ?_; refine XB ?_; refine zp (QC (b := true) rfl rfl rfl (by simp [hk])) ?_
 refine Qu ?_; refine zp (Qe rfl rfl rfl) ?_; refine Qv ?_; refine zp (Qc (fcb (c := true) (Y8 l b.v) (hq3 hk)) rfl rfl rfl) ?_
 refine Qu ?_; change Qj _ _ _ _ _ _; refine Q8 ?_; refine Qd 23 (by kernel_rfl) (by kernel_rfl) ?_; refine Qs ?_
 refine zp (Qe rfl rfl rfl) ?_; refine Qu ?_; refine zp (QC (b := false) rfl rfl rfl (by simp [d1])) ?_; refine Qu ?_
 refine zp (Qe rfl rfl rfl) ?_; refine Qv ?_
 refine zd 83 ?_ ?_ <;> intro h34
 ·
  exact absurd h34 (by rw [d2]; decide)
 refine Jk ?_; refine vP (Xj h34) (Qe rfl rfl rfl) ?_; refine Qv ?_
 refine vP (Xj h34) (Xg rfl rfl rfl rfl (by rw [List.length_map]) b.f.toNat (by omega) hfl) ?_
 refine vP (Xj h34) (JD rfl rfl r.reps rfl rfl b.f.toNat rfl hget) ?_; refine vP (Xj h34) (QC (b := false) rfl rfl rfl (by simp)) ?_
 change Qj _ _ _ _ _ _; refine QF ?_; refine Qd 9 (by kernel_rfl) (by kernel_rfl) ?_; refine zm ?_; refine zp (Qe rfl rfl rfl) ?_
 refine Q8 ?_; refine zp (Xg rfl rfl rfl rfl (by rw [List.length_map]) b.f.toNat (by omega) hfl) ?_; change Qj _ _ _ _ _ _
 refine QdP hN rfl rfl rfl (by rw [List.length_map]) b.f.toNat rfl (by rw [List.length_map]; exact hfl) rfl rfl rfl rfl (Qjb _) rfl rfl rfl (Qee.trans (congrArg _ hrs.symm)) ?_
 refine Q8 ?_; refine zP (QC (b := true) rfl rfl rfl (by simp [hk])) ?_; refine Qu ?_; refine Qd 14 (by kernel_rfl) (by kernel_rfl) ?_
 refine Qu ?_; refine zp (Qe rfl rfl rfl) ?_; refine Qs ?_; refine zp (Qe rfl rfl rfl) ?_; refine Qv ?_
 refine zp (Qc (QkG l r.more b.v hc hm hbe (show n + 40 ≤ 1000000 by omega) sm sb) rfl rfl rfl) ?_; refine zp (Qe rfl rfl rfl) ?_
 refine zf ?_; change Qj _ _ _ _ _ _; refine YR ?_
 refine Ql (fun x : {k : Nat // k ≤ r.reps.length} => ⟨[(0, .ptr QB 0), (5, i64 ((rs.take x.1).countP (· == 2) : Nat)), (6, i64 ((rs.take x.1).countP (· != 0) : Nat)), (7, i64 (x.1 : Nat))], [(QB, .var 48 (rrC l (Yc l r b) (.own (QB + 1) r.reps.length))), (QB + 1, .arr 3 1 (rs.map iv1))], 1⟩) (fun x => r.reps.length - x.1) (⟨0, Nat.zero_le _⟩) ?_ ?_
 ·
  exact Qa rfl (JH trivial) ⟨(by rw [WK hk]; rfl), rfl, rfl, rfl, rfl, (QJ _), trivial⟩
 rintro ⟨k, hk0⟩
 dsimp only
 refine QF ?_; refine zP (Qe rfl rfl rfl) ?_; refine Qu ?_; refine zP ((X9 rfl rfl rfl (by rw [List.length_map, hrl]))) ?_; refine Qu ?_
 refine zq ?_ ?_ <;> intro h67
 rotate_left
 ·
  have hge : r.reps.length ≤ k := by simpa using h67
  obtain rfl : k = rs.length := by omega
  rw [List.take_length]
  have hA1 : rs.countP (· == 2) = K0 (Yc l r b) := by rw [WK hk, hrs]; rfl
  have hA2 : rs.countP (· != 0) = QbN (Yc l r b) := by rw [WK hk, hrs]; rfl
  have hRs : rs = (Yc l r b).reps := by rw [WK hk, hrs]
  rw [hA1, hA2]
  refine Qs ?_
  rw [Qkk h18 h20]
  refine Qs ?_; refine zP (Qe rfl rfl rfl) ?_; refine Qu ?_; refine zP (QC (b := false) rfl rfl rfl (by simpa using h18)) ?_; refine Q8 ?_
  refine zP (Qe rfl rfl rfl) ?_; refine Qu ?_; refine zP (QC (b := true) rfl rfl rfl (by simpa using h20)) ?_; refine Q8 ?_
  refine zP (Qe rfl rfl rfl) ?_; refine Qu ?_; refine zP (Qe rfl rfl rfl) ?_; refine Q8 ?_; refine zP (Qe rfl rfl rfl) ?_; refine Qu ?_
  refine zP (QZ rfl rfl rfl (by first | omega | (dsimp only; omega))) ?_
  refine zP (Qe rfl rfl rfl) ?_; refine Q8 ?_; refine zP (Qe rfl rfl rfl) ?_; refine Qu ?_
  refine zP ((X9 rfl rfl rfl (by rw [List.length_map, hrl]))) ?_
  refine Ql4 hN rfl (k := 1) (zs := [.int .i64 0]) rfl (y := 8) (by kernel_rfl) rfl rfl (n := r.reps.length) rfl rfl (by omega) rfl rfl rfl rfl ?_
  refine zP (Qe rfl rfl rfl) ?_; refine zF ?_
  refine Qeb rfl rfl rfl rfl (XS rfl (by simp)) rfl (Nat.le_of_ble_eq_true rfl) rfl rfl rfl rfl ?_; refine QF ?_; refine Qh ?_
  change (Xa _ _).ntt = _ ∧ _
  refine Jq rfl ?_ rfl rfl rfl ⟨rfl, rfl, rfl, (by rw [hRs]; rfl), rfl, QJ _, (by rw [QiD, List.map_replicate]; rfl), rfl, QJ _, trivial⟩
  rfl
 have hlt : k < r.reps.length := by simpa using h67
 obtain ⟨y, hx⟩ := Qn (show k < rs.length by omega)
 have hcl1 : (rs.take k).countP (· == 2) ≤ 12 := by have := List.countP_le_length (p := (· == 2)) (l := rs.take k); rw [List.length_take] at this; omega
 have hcl2 : (rs.take k).countP (· != 0) ≤ 12 := by have := List.countP_le_length (p := (· != 0)) (l := rs.take k); rw [List.length_take] at this; omega
 refine Q4 ?_; refine zP (Qe rfl rfl rfl) ?_; refine Qs ?_; refine zP (Xg rfl rfl rfl rfl (by rw [List.length_map, hrl]) k rfl hlt) ?_
 refine zP (JD rfl rfl rs rfl hrl.symm k rfl hx) ?_; refine Qu ?_
 refine zq ?_ ?_ <;> intro h72
 ·
  have y2 : (y == 2) = true := by simpa using h72
  refine Qu ?_
  refine zP (QZ rfl rfl rfl (by first | omega | (dsimp only; omega))) ?_
  refine QF ?_; refine zP (Qe rfl rfl rfl) ?_; refine Qs ?_; refine zP (Xg rfl rfl rfl rfl (by rw [List.length_map, hrl]) k rfl hlt) ?_
  refine zP (JD rfl rfl rs rfl hrl.symm k rfl hx) ?_; refine Qu ?_
  refine zq ?_ ?_ <;> intro h78
  ·
   have y0 : (y != 0) = true := by simpa using h78
   refine Qu ?_
   refine zP (QZ rfl rfl rfl (by first | omega | (dsimp only; omega))) ?_
   refine Qv ?_
   refine zP (QZ rfl rfl rfl (by first | omega | (dsimp only; omega))) ?_
   refine zS ?_; refine Qb ?_
   exact ⟨⟨k + 1, hlt⟩, Qa rfl (Xv ⟨(Q0 (by dsimp only; rw [Xr hx, y2]; simp)), rfl, (Q0 (by dsimp only; rw [Xr hx, y0]; simp)), rfl, (Q0 (by dsimp only; omega)), rfl, trivial⟩) ⟨rfl, rfl, rfl, rfl, rfl, (QJ _), trivial⟩, by dsimp only; omega⟩
  have y0 : (y != 0) = false := by simpa using h78
  refine Qs ?_
  refine zP (QZ rfl rfl rfl (by first | omega | (dsimp only; omega))) ?_
  refine zS ?_; refine Qb ?_
  exact ⟨⟨k + 1, hlt⟩, Qa rfl (Xv ⟨(Q0 (by dsimp only; rw [Xr hx, y2]; simp)), rfl, (Q0 (by dsimp only; rw [Xr hx, y0]; simp)), rfl, (Q0 (by dsimp only; omega)), rfl, trivial⟩) ⟨rfl, rfl, rfl, rfl, rfl, (QJ _), trivial⟩, by dsimp only; omega⟩
 have y2 : (y == 2) = false := by simpa using h72
 refine Qv ?_; refine zP (Qe rfl rfl rfl) ?_; refine Qs ?_; refine zP (Xg rfl rfl rfl rfl (by rw [List.length_map, hrl]) k rfl hlt) ?_
 refine zP (JD rfl rfl rs rfl hrl.symm k rfl hx) ?_; refine Qu ?_
 refine zq ?_ ?_ <;> intro h86
 ·
  have y0 : (y != 0) = true := by simpa using h86
  refine Qu ?_
  refine zP (QZ rfl rfl rfl (by first | omega | (dsimp only; omega))) ?_
  refine Qv ?_
  refine zP (QZ rfl rfl rfl (by first | omega | (dsimp only; omega))) ?_
  refine zS ?_; refine Qb ?_
  exact ⟨⟨k + 1, hlt⟩, Qa rfl (Xv ⟨(Q0 (by dsimp only; rw [Xr hx, y2]; simp)), rfl, (Q0 (by dsimp only; rw [Xr hx, y0]; simp)), rfl, (Q0 (by dsimp only; omega)), rfl, trivial⟩) ⟨rfl, rfl, rfl, rfl, rfl, (QJ _), trivial⟩, by dsimp only; omega⟩
 have y0 : (y != 0) = false := by simpa using h86
 refine Qs ?_
 refine zP (QZ rfl rfl rfl (by first | omega | (dsimp only; omega))) ?_
 refine zS ?_; refine Qb ?_
 exact ⟨⟨k + 1, hlt⟩, Qa rfl (Xv ⟨(Q0 (by dsimp only; rw [Xr hx, y2]; simp)), rfl, (Q0 (by dsimp only; rw [Xr hx, y0]; simp)), rfl, (Q0 (by dsimp only; omega)), rfl, trivial⟩) ⟨rfl, rfl, rfl, rfl, rfl, (QJ _), trivial⟩, by dsimp only; omega⟩
theorem Qnm (l : QD) (r : Rr) (b : JR) (hck : J2 l r b = 0) (h12 : r.reps.length ≤ 12) (hk : b.k = 2) (hK : ¬ (¬ (K0 (Yc l r b) : Int) ≥ (Yc l r b).q ∧ (QbN (Yc l r b) : Int) ≥ (Yc l r b).q)) : GX Tryz.prog 28 [.ptr QB 0, .agg (Jx b)] (rrH l r) (i64 0) [(QB, .var 48 (rrC l (Qa0 (Yc l r b)) (.own (QB + 1) r.reps.length))), (QB + 1, .arr 3 1 ((Yc l r b).reps.map iv1))] 1 := by
 obtain ⟨hkk, e1, e2, e3, e4, hq2, hq3, d1, d2, d3⟩ := QfP hck
 have hfl : b.f.toNat < r.reps.length := by omega
 have hget : r.reps[b.f.toNat]? = some 0 := by rw [← d3]; simp [List.getD, List.getElem?_eq_getElem hfl]
 obtain ⟨rs, hrs⟩ : ∃ rs, rs = r.reps.set b.f.toNat b.k := ⟨_, rfl⟩
 have hrl : rs.length = r.reps.length := by rw [hrs, List.length_set]
 have htq : (Yc l r b).q = r.q := by unfold Yc; rfl
 refine YV [4] Tryz.func28 rfl rfl 187 Tryz.ntmps28 (Nat.le_of_ble_eq_true rfl) ?_
 intro E hN
 refine Q4 ?_; refine Qd 36 (by kernel_rfl) (by kernel_rfl) ?_; refine Qu ?_; refine zp (QC (b := false) rfl rfl rfl (by simp [hk])) ?_
 refine JA ?_; refine zp (Qe rfl rfl rfl) ?_; refine Qu ?_; refine zp (QC (b := false) rfl rfl rfl (by simp [e1])) ?_; refine Qv ?_
 refine zp (QC (b := false) rfl rfl rfl (by simp; omega)) ?_
 refine QF ?_; refine zp (Qe rfl rfl rfl) ?_; refine Qu ?_; refine zp ((X9 rfl rfl rfl (by rw [List.length_map]))) ?_
 refine zp (QC (b := false) rfl rfl rfl (by simp; omega)) ?_
 refine Qv ?_
 refine zp (QC (b := false) rfl rfl rfl (by simp; omega)) ?_
 change Qj _ _ _ _ _ _; refine Q8 ?_; refine Qd 24 (by kernel_rfl) (by kernel_rfl) ?_; refine Qu ?_
 refine zp (QC (b := true) rfl rfl rfl (by simp [hk])) ?_; refine Qs ?_; refine zp (JS rfl rfl rfl) ?_
 refine zp (Qc (fcb (c := true) (Je b.v Qw.zero) (hq2 hk)) rfl rfl rfl) ?_; refine QF ?_
 refine zp (QC (b := false) rfl rfl rfl (by simp [hk])) ?_; refine XB ?_; change Qj _ _ _ _ _ _; refine Q8 ?_
 refine Qd 23 (by kernel_rfl) (by kernel_rfl) ?_; refine Qs ?_; refine zp (Qe rfl rfl rfl) ?_; refine Qu ?_
 refine zp (QC (b := false) rfl rfl rfl (by simp [d1])) ?_; refine Qu ?_; refine zp (Qe rfl rfl rfl) ?_; refine Qv ?_
 refine zd 83 ?_ ?_ <;> intro h31
 ·
  exact absurd h31 (by rw [d2]; decide)
 refine Jk ?_; refine vP (Xj h31) (Qe rfl rfl rfl) ?_; refine Qv ?_
 refine vP (Xj h31) (Xg rfl rfl rfl rfl (by rw [List.length_map]) b.f.toNat (by omega) hfl) ?_
 refine vP (Xj h31) (JD rfl rfl r.reps rfl rfl b.f.toNat rfl hget) ?_; refine vP (Xj h31) (QC (b := false) rfl rfl rfl (by simp)) ?_
 change Qj _ _ _ _ _ _; refine QF ?_; refine Qd 9 (by kernel_rfl) (by kernel_rfl) ?_; refine zm ?_; refine zp (Qe rfl rfl rfl) ?_
 refine Q8 ?_; refine zp (Xg rfl rfl rfl rfl (by rw [List.length_map]) b.f.toNat (by omega) hfl) ?_; change Qj _ _ _ _ _ _
 refine QdP hN rfl rfl rfl (by rw [List.length_map]) b.f.toNat rfl (by rw [List.length_map]; exact hfl) rfl rfl rfl rfl (Qjb _) rfl rfl rfl (Qee.trans (congrArg _ hrs.symm)) ?_
 refine Q8 ?_; refine zP (QC (b := false) rfl rfl rfl (by simp [hk])) ?_; refine Ki ?_
 refine Ql (fun x : {k : Nat // k ≤ r.reps.length} => ⟨[(0, .ptr QB 0), (5, i64 ((rs.take x.1).countP (· == 2) : Nat)), (6, i64 ((rs.take x.1).countP (· != 0) : Nat)), (7, i64 (x.1 : Nat))], [(QB, .var 48 (rrC l (Yc l r b) (.own (QB + 1) r.reps.length))), (QB + 1, .arr 3 1 (rs.map iv1))], 1⟩) (fun x => r.reps.length - x.1) (⟨0, Nat.zero_le _⟩) ?_ ?_
 ·
  exact Qa rfl (JH trivial) ⟨(by rw [QaL hk]; rfl), rfl, rfl, rfl, rfl, (QJ _), trivial⟩
 rintro ⟨k, hk0⟩
 dsimp only
 refine QF ?_; refine zP (Qe rfl rfl rfl) ?_; refine Qu ?_; refine zP ((X9 rfl rfl rfl (by rw [List.length_map, hrl]))) ?_; refine Qu ?_
 refine zq ?_ ?_ <;> intro h55
 rotate_left
 ·
  have hge : r.reps.length ≤ k := by simpa using h55
  obtain rfl : k = rs.length := by omega
  rw [List.take_length]
  have hA1 : rs.countP (· == 2) = K0 (Yc l r b) := by rw [QaL hk, hrs]; rfl
  have hA2 : rs.countP (· != 0) = QbN (Yc l r b) := by rw [QaL hk, hrs]; rfl
  have hRs : rs = (Yc l r b).reps := by rw [QaL hk, hrs]
  rw [hA1, hA2]
  refine Q8 ?_; refine zP (Qe rfl rfl rfl) ?_; refine Qv ?_
  refine zq ?_ ?_ <;> intro h80
  ·
   have h18 : (K0 (Yc l r b) : Int) ≥ (Yc l r b).q := by simpa using h80
   rw [Qj3 h18]
   refine Qu ?_; refine zP (Qe rfl rfl rfl) ?_; refine Q4 ?_; refine Qh ?_
   change (Xa _ _).ntt = _ ∧ _
   refine Jq rfl ?_ rfl rfl rfl ⟨rfl, rfl, rfl, (by rw [hRs]; rfl), rfl, QJ _, trivial⟩
   rfl
  have h18 : ¬ (K0 (Yc l r b) : Int) ≥ (Yc l r b).q := by simpa using h80
  refine Qv ?_; refine zP (Qe rfl rfl rfl) ?_; refine Qv ?_
  refine zq ?_ ?_ <;> intro h85
  ·
   exact absurd ⟨h18, by simpa using h85⟩ hK
  have h20 : ¬ (QbN (Yc l r b) : Int) ≥ (Yc l r b).q := by simpa using h85
  rw [Qhz h18 h20]
  refine QF ?_; refine Qh ?_
  change (Xa _ _).ntt = _ ∧ _
  refine Jq rfl ?_ rfl rfl rfl ⟨rfl, rfl, rfl, (by rw [hRs]; rfl), rfl, QJ _, trivial⟩
  rfl
 have hlt : k < r.reps.length := by simpa using h55
 obtain ⟨y, hx⟩ := Qn (show k < rs.length by omega)
 have hcl1 : (rs.take k).countP (· == 2) ≤ 12 := by have := List.countP_le_length (p := (· == 2)) (l := rs.take k); rw [List.length_take] at this; omega
 have hcl2 : (rs.take k).countP (· != 0) ≤ 12 := by have := List.countP_le_length (p := (· != 0)) (l := rs.take k); rw [List.length_take] at this; omega
 refine Q4 ?_; refine zP (Qe rfl rfl rfl) ?_; refine Qs ?_; refine zP (Xg rfl rfl rfl rfl (by rw [List.length_map, hrl]) k rfl hlt) ?_
 refine zP (JD rfl rfl rs rfl hrl.symm k rfl hx) ?_; refine Qu ?_
 refine zq ?_ ?_ <;> intro h60
 ·
  have y2 : (y == 2) = true := by simpa using h60
  refine Qu ?_
  refine zP (QZ rfl rfl rfl (by first | omega | (dsimp only; omega))) ?_
  refine QF ?_; refine zP (Qe rfl rfl rfl) ?_; refine Qs ?_; refine zP (Xg rfl rfl rfl rfl (by rw [List.length_map, hrl]) k rfl hlt) ?_
  refine zP (JD rfl rfl rs rfl hrl.symm k rfl hx) ?_; refine Qu ?_
  refine zq ?_ ?_ <;> intro h66
  ·
   have y0 : (y != 0) = true := by simpa using h66
   refine Qu ?_
   refine zP (QZ rfl rfl rfl (by first | omega | (dsimp only; omega))) ?_
   refine Qv ?_
   refine zP (QZ rfl rfl rfl (by first | omega | (dsimp only; omega))) ?_
   refine zS ?_; refine Qb ?_
   exact ⟨⟨k + 1, hlt⟩, Qa rfl (Xv ⟨(Q0 (by dsimp only; rw [Xr hx, y2]; simp)), rfl, (Q0 (by dsimp only; rw [Xr hx, y0]; simp)), rfl, (Q0 (by dsimp only; omega)), rfl, trivial⟩) ⟨rfl, rfl, rfl, rfl, rfl, (QJ _), trivial⟩, by dsimp only; omega⟩
  have y0 : (y != 0) = false := by simpa using h66
  refine Qs ?_
  refine zP (QZ rfl rfl rfl (by first | omega | (dsimp only; omega))) ?_
  refine zS ?_; refine Qb ?_
  exact ⟨⟨k + 1, hlt⟩, Qa rfl (Xv ⟨(Q0 (by dsimp only; rw [Xr hx, y2]; simp)), rfl, (Q0 (by dsimp only; rw [Xr hx, y0]; simp)), rfl, (Q0 (by dsimp only; omega)), rfl, trivial⟩) ⟨rfl, rfl, rfl, rfl, rfl, (QJ _), trivial⟩, by dsimp only; omega⟩
 have y2 : (y == 2) = false := by simpa using h60
 refine Qv ?_; refine zP (Qe rfl rfl rfl) ?_; refine Qs ?_; refine zP (Xg rfl rfl rfl rfl (by rw [List.length_map, hrl]) k rfl hlt) ?_
 refine zP (JD rfl rfl rs rfl hrl.symm k rfl hx) ?_; refine Qu ?_
 refine zq ?_ ?_ <;> intro h74
 ·
  have y0 : (y != 0) = true := by simpa using h74
  refine Qu ?_
  refine zP (QZ rfl rfl rfl (by first | omega | (dsimp only; omega))) ?_
  refine Qv ?_
  refine zP (QZ rfl rfl rfl (by first | omega | (dsimp only; omega))) ?_
  refine zS ?_; refine Qb ?_
  exact ⟨⟨k + 1, hlt⟩, Qa rfl (Xv ⟨(Q0 (by dsimp only; rw [Xr hx, y2]; simp)), rfl, (Q0 (by dsimp only; rw [Xr hx, y0]; simp)), rfl, (Q0 (by dsimp only; omega)), rfl, trivial⟩) ⟨rfl, rfl, rfl, rfl, rfl, (QJ _), trivial⟩, by dsimp only; omega⟩
 have y0 : (y != 0) = false := by simpa using h74
 refine Qs ?_
 refine zP (QZ rfl rfl rfl (by first | omega | (dsimp only; omega))) ?_
 refine zS ?_; refine Qb ?_
 exact ⟨⟨k + 1, hlt⟩, Qa rfl (Xv ⟨(Q0 (by dsimp only; rw [Xr hx, y2]; simp)), rfl, (Q0 (by dsimp only; rw [Xr hx, y0]; simp)), rfl, (Q0 (by dsimp only; omega)), rfl, trivial⟩) ⟨rfl, rfl, rfl, rfl, rfl, (QJ _), trivial⟩, by dsimp only; omega⟩
theorem Qnx (l : QD) (r : Rr) (b : JR) (hck : J2 l r b = 0) (h12 : r.reps.length ≤ 12) (hk : b.k = 3) (hc : Xp l = 0) (hm : Qt r.more l = true) (hbe : Qt b.v l = true) {n : Nat} (hn : n ≤ 900000) (sm : J6 n r.more) (sb : J6 40 b.v) (hK : ¬ (¬ (K0 (Yc l r b) : Int) ≥ (Yc l r b).q ∧ (QbN (Yc l r b) : Int) ≥ (Yc l r b).q)) : GX Tryz.prog 28 [.ptr QB 0, .agg (Jx b)] (rrH l r) (i64 0) [(QB, .var 48 (rrC l (Qa0 (Yc l r b)) (.own (QB + 1) r.reps.length))), (QB + 1, .arr 3 1 ((Yc l r b).reps.map iv1))] 1 := by
 obtain ⟨hkk, e1, e2, e3, e4, hq2, hq3, d1, d2, d3⟩ := QfP hck
 have hfl : b.f.toNat < r.reps.length := by omega
 have hget : r.reps[b.f.toNat]? = some 0 := by rw [← d3]; simp [List.getD, List.getElem?_eq_getElem hfl]
 obtain ⟨rs, hrs⟩ : ∃ rs, rs = r.reps.set b.f.toNat b.k := ⟨_, rfl⟩
 have hrl : rs.length = r.reps.length := by rw [hrs, List.length_set]
 have htq : (Yc l r b).q = r.q := by unfold Yc; rfl
 refine YV [4] Tryz.func28 rfl rfl 187 Tryz.ntmps28 (Nat.le_of_ble_eq_true rfl) ?_
 intro E hN
 refine Q4 ?_; refine Qd 36 (by kernel_rfl) (by kernel_rfl) ?_; refine Qu ?_; refine zp (QC (b := true) rfl rfl rfl (by simp [hk])) ?_
 refine Qs ?_; refine zp (QC (b := false) rfl rfl rfl (by simp [hk])) ?_; refine QF ?_; refine zp (Qe rfl rfl rfl) ?_; refine Qu ?_
 refine zp (QC (b := false) rfl rfl rfl (by simp [e1])) ?_; refine Qv ?_
 refine zp (QC (b := false) rfl rfl rfl (by simp; omega)) ?_
 refine QF ?_; refine zp (Qe rfl rfl rfl) ?_; refine Qu ?_; refine zp ((X9 rfl rfl rfl (by rw [List.length_map]))) ?_
 refine zp (QC (b := false) rfl rfl rfl (by simp; omega)) ?_
 refine Qv ?_
 refine zp (QC (b := false) rfl rfl rfl (by simp; omega)) ?_
 change Qj _ _ _ _ _ _; refine Q8 ?_; refine Qd 24 (by kernel_rfl) (by kernel_rfl) ?_; refine Qu ?_
 refine zp (QC (b := false) rfl rfl rfl (by simp [hk])) ?_; refine XB ?_; refine zp (QC (b := true) rfl rfl rfl (by simp [hk])) ?_
 refine Qu ?_; refine zp (Qe rfl rfl rfl) ?_; refine Qv ?_; refine zp (Qc (fcb (c := true) (Y8 l b.v) (hq3 hk)) rfl rfl rfl) ?_
 refine Qu ?_; change Qj _ _ _ _ _ _; refine Q8 ?_; refine Qd 23 (by kernel_rfl) (by kernel_rfl) ?_; refine Qs ?_
 refine zp (Qe rfl rfl rfl) ?_; refine Qu ?_; refine zp (QC (b := false) rfl rfl rfl (by simp [d1])) ?_; refine Qu ?_
 refine zp (Qe rfl rfl rfl) ?_; refine Qv ?_
 refine zd 83 ?_ ?_ <;> intro h34
 ·
  exact absurd h34 (by rw [d2]; decide)
 refine Jk ?_; refine vP (Xj h34) (Qe rfl rfl rfl) ?_; refine Qv ?_
 refine vP (Xj h34) (Xg rfl rfl rfl rfl (by rw [List.length_map]) b.f.toNat (by omega) hfl) ?_
 refine vP (Xj h34) (JD rfl rfl r.reps rfl rfl b.f.toNat rfl hget) ?_; refine vP (Xj h34) (QC (b := false) rfl rfl rfl (by simp)) ?_
 change Qj _ _ _ _ _ _; refine QF ?_; refine Qd 9 (by kernel_rfl) (by kernel_rfl) ?_; refine zm ?_; refine zp (Qe rfl rfl rfl) ?_
 refine Q8 ?_; refine zp (Xg rfl rfl rfl rfl (by rw [List.length_map]) b.f.toNat (by omega) hfl) ?_; change Qj _ _ _ _ _ _
 refine QdP hN rfl rfl rfl (by rw [List.length_map]) b.f.toNat rfl (by rw [List.length_map]; exact hfl) rfl rfl rfl rfl (Qjb _) rfl rfl rfl (Qee.trans (congrArg _ hrs.symm)) ?_
 refine Q8 ?_; refine zP (QC (b := true) rfl rfl rfl (by simp [hk])) ?_; refine Qu ?_; refine Qd 14 (by kernel_rfl) (by kernel_rfl) ?_
 refine Qu ?_; refine zp (Qe rfl rfl rfl) ?_; refine Qs ?_; refine zp (Qe rfl rfl rfl) ?_; refine Qv ?_
 refine zp (Qc (QkG l r.more b.v hc hm hbe (show n + 40 ≤ 1000000 by omega) sm sb) rfl rfl rfl) ?_; refine zp (Qe rfl rfl rfl) ?_
 refine zf ?_; change Qj _ _ _ _ _ _; refine YR ?_
 refine Ql (fun x : {k : Nat // k ≤ r.reps.length} => ⟨[(0, .ptr QB 0), (5, i64 ((rs.take x.1).countP (· == 2) : Nat)), (6, i64 ((rs.take x.1).countP (· != 0) : Nat)), (7, i64 (x.1 : Nat))], [(QB, .var 48 (rrC l (Yc l r b) (.own (QB + 1) r.reps.length))), (QB + 1, .arr 3 1 (rs.map iv1))], 1⟩) (fun x => r.reps.length - x.1) (⟨0, Nat.zero_le _⟩) ?_ ?_
 ·
  exact Qa rfl (JH trivial) ⟨(by rw [WK hk]; rfl), rfl, rfl, rfl, rfl, (QJ _), trivial⟩
 rintro ⟨k, hk0⟩
 dsimp only
 refine QF ?_; refine zP (Qe rfl rfl rfl) ?_; refine Qu ?_; refine zP ((X9 rfl rfl rfl (by rw [List.length_map, hrl]))) ?_; refine Qu ?_
 refine zq ?_ ?_ <;> intro h67
 rotate_left
 ·
  have hge : r.reps.length ≤ k := by simpa using h67
  obtain rfl : k = rs.length := by omega
  rw [List.take_length]
  have hA1 : rs.countP (· == 2) = K0 (Yc l r b) := by rw [WK hk, hrs]; rfl
  have hA2 : rs.countP (· != 0) = QbN (Yc l r b) := by rw [WK hk, hrs]; rfl
  have hRs : rs = (Yc l r b).reps := by rw [WK hk, hrs]
  rw [hA1, hA2]
  refine Q8 ?_; refine zP (Qe rfl rfl rfl) ?_; refine Qv ?_
  refine zq ?_ ?_ <;> intro h92
  ·
   have h18 : (K0 (Yc l r b) : Int) ≥ (Yc l r b).q := by simpa using h92
   rw [Qj3 h18]
   refine Qu ?_; refine zP (Qe rfl rfl rfl) ?_; refine Q4 ?_; refine Qh ?_
   change (Xa _ _).ntt = _ ∧ _
   refine Jq rfl ?_ rfl rfl rfl ⟨rfl, rfl, rfl, (by rw [hRs]; rfl), rfl, QJ _, trivial⟩
   rfl
  have h18 : ¬ (K0 (Yc l r b) : Int) ≥ (Yc l r b).q := by simpa using h92
  refine Qv ?_; refine zP (Qe rfl rfl rfl) ?_; refine Qv ?_
  refine zq ?_ ?_ <;> intro h97
  ·
   exact absurd ⟨h18, by simpa using h97⟩ hK
  have h20 : ¬ (QbN (Yc l r b) : Int) ≥ (Yc l r b).q := by simpa using h97
  rw [Qhz h18 h20]
  refine QF ?_; refine Qh ?_
  change (Xa _ _).ntt = _ ∧ _
  refine Jq rfl ?_ rfl rfl rfl ⟨rfl, rfl, rfl, (by rw [hRs]; rfl), rfl, QJ _, trivial⟩
  rfl
 have hlt : k < r.reps.length := by simpa using h67
 obtain ⟨y, hx⟩ := Qn (show k < rs.length by omega)
 have hcl1 : (rs.take k).countP (· == 2) ≤ 12 := by have := List.countP_le_length (p := (· == 2)) (l := rs.take k); rw [List.length_take] at this; omega
 have hcl2 : (rs.take k).countP (· != 0) ≤ 12 := by have := List.countP_le_length (p := (· != 0)) (l := rs.take k); rw [List.length_take] at this; omega
 refine Q4 ?_; refine zP (Qe rfl rfl rfl) ?_; refine Qs ?_; refine zP (Xg rfl rfl rfl rfl (by rw [List.length_map, hrl]) k rfl hlt) ?_
 refine zP (JD rfl rfl rs rfl hrl.symm k rfl hx) ?_; refine Qu ?_
 refine zq ?_ ?_ <;> intro h72
 ·
  have y2 : (y == 2) = true := by simpa using h72
  refine Qu ?_
  refine zP (QZ rfl rfl rfl (by first | omega | (dsimp only; omega))) ?_
  refine QF ?_; refine zP (Qe rfl rfl rfl) ?_; refine Qs ?_; refine zP (Xg rfl rfl rfl rfl (by rw [List.length_map, hrl]) k rfl hlt) ?_
  refine zP (JD rfl rfl rs rfl hrl.symm k rfl hx) ?_; refine Qu ?_
  refine zq ?_ ?_ <;> intro h78
  ·
   have y0 : (y != 0) = true := by simpa using h78
   refine Qu ?_
   refine zP (QZ rfl rfl rfl (by first | omega | (dsimp only; omega))) ?_
   refine Qv ?_
   refine zP (QZ rfl rfl rfl (by first | omega | (dsimp only; omega))) ?_
   refine zS ?_; refine Qb ?_
   exact ⟨⟨k + 1, hlt⟩, Qa rfl (Xv ⟨(Q0 (by dsimp only; rw [Xr hx, y2]; simp)), rfl, (Q0 (by dsimp only; rw [Xr hx, y0]; simp)), rfl, (Q0 (by dsimp only; omega)), rfl, trivial⟩) ⟨rfl, rfl, rfl, rfl, rfl, (QJ _), trivial⟩, by dsimp only; omega⟩
  have y0 : (y != 0) = false := by simpa using h78
  refine Qs ?_
  refine zP (QZ rfl rfl rfl (by first | omega | (dsimp only; omega))) ?_
  refine zS ?_; refine Qb ?_
  exact ⟨⟨k + 1, hlt⟩, Qa rfl (Xv ⟨(Q0 (by dsimp only; rw [Xr hx, y2]; simp)), rfl, (Q0 (by dsimp only; rw [Xr hx, y0]; simp)), rfl, (Q0 (by dsimp only; omega)), rfl, trivial⟩) ⟨rfl, rfl, rfl, rfl, rfl, (QJ _), trivial⟩, by dsimp only; omega⟩
 have y2 : (y == 2) = false := by simpa using h72
 refine Qv ?_; refine zP (Qe rfl rfl rfl) ?_; refine Qs ?_; refine zP (Xg rfl rfl rfl rfl (by rw [List.length_map, hrl]) k rfl hlt) ?_
 refine zP (JD rfl rfl rs rfl hrl.symm k rfl hx) ?_; refine Qu ?_
 refine zq ?_ ?_ <;> intro h86
 ·
  have y0 : (y != 0) = true := by simpa using h86
  refine Qu ?_
  refine zP (QZ rfl rfl rfl (by first | omega | (dsimp only; omega))) ?_
  refine Qv ?_
  refine zP (QZ rfl rfl rfl (by first | omega | (dsimp only; omega))) ?_
  refine zS ?_; refine Qb ?_
  exact ⟨⟨k + 1, hlt⟩, Qa rfl (Xv ⟨(Q0 (by dsimp only; rw [Xr hx, y2]; simp)), rfl, (Q0 (by dsimp only; rw [Xr hx, y0]; simp)), rfl, (Q0 (by dsimp only; omega)), rfl, trivial⟩) ⟨rfl, rfl, rfl, rfl, rfl, (QJ _), trivial⟩, by dsimp only; omega⟩
 have y0 : (y != 0) = false := by simpa using h86
 refine Qs ?_
 refine zP (QZ rfl rfl rfl (by first | omega | (dsimp only; omega))) ?_
 refine zS ?_; refine Qb ?_
 exact ⟨⟨k + 1, hlt⟩, Qa rfl (Xv ⟨(Q0 (by dsimp only; rw [Xr hx, y2]; simp)), rfl, (Q0 (by dsimp only; rw [Xr hx, y0]; simp)), rfl, (Q0 (by dsimp only; omega)), rfl, trivial⟩) ⟨rfl, rfl, rfl, rfl, rfl, (QJ _), trivial⟩, by dsimp only; omega⟩
end Go.Proofs.YtnkkokmmeplbgaaGreat
