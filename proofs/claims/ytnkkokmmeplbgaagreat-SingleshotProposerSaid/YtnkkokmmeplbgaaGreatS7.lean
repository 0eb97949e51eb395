/-
  Contracts: the proposer, at any state: check, refine, Receiv
-/
import Derived.Test.YtnkkokmmeplbgaaGreatS6
namespace Go.Proofs.YtnkkokmmeplbgaaGreat
set_option maxRecDepth 100000
set_option maxHeartbeats 1000000
open Go.RowKit
theorem QiO (l : QD) (s : Pr) (b : JR) (h12 : s.n ≤ 12) : GC Tryz.prog 68 [.ptr QB 0, .agg (Jx b)] (prH l s) (i64 (YS l s b)) (prH l s) := by
 refine XL [4] Tryz.func68 rfl rfl 72 Tryz.ntmps68 (Nat.le_of_ble_eq_true rfl) ?_
 intro E hN
 refine Q4 ?_; refine Qd 25 (by kernel_rfl) (by kernel_rfl) ?_; refine Qs ?_; refine zp (Qe rfl rfl rfl) ?_; refine Qv ?_
 refine zd 12 ?_ ?_ <;> intro h8
 ·
  have e1 : b.t ≠ s.id := by simpa using h8
  refine QeT ?_; change Qj _ _ _ _ _ _; refine Q4 ?_; refine Qh ?_
  change (Xa _ _).fzt = some _ ∧ _
  refine YJ rfl ?_ rfl ?_ rfl rfl ?_ (QO _)
  ·rw [YS, if_pos (by omega)]
  ·rfl
  rfl
 have e1 : b.t = s.id := by simpa using h8
 refine QF ?_
 refine zd 17 ?_ ?_ <;> intro h11
 ·
  have e2 : b.f < 0 := by simpa using h11
  refine X6 ?_; change Qj _ _ _ _ _ _; refine Q4 ?_; refine Qh ?_
  change (Xa _ _).fzt = some _ ∧ _
  refine YJ rfl ?_ rfl ?_ rfl rfl ?_ (QO _)
  ·rw [YS, if_pos (by omega)]
  ·rfl
  rfl
 have e2 : ¬ b.f < 0 := by simpa using h11
 refine Qs ?_; refine vP (Xj h11) (Qe rfl rfl rfl) ?_; refine QF ?_
 refine zd 26 ?_ ?_ <;> intro h16
 ·
  have e3 : b.f ≥ s.n := by simpa using h16
  refine Qs ?_; change Qj _ _ _ _ _ _; refine Q4 ?_; refine Qh ?_
  change (Xa _ _).fzt = some _ ∧ _
  refine YJ rfl ?_ rfl ?_ rfl rfl ?_ (QO _)
  ·rw [YS, if_pos (by omega)]
  ·rfl
  rfl
 have e3 : ¬ b.f ≥ s.n := by simpa using h16
 refine Qs ?_; change Qj _ _ _ _ _ _; refine Qu ?_
 refine zq ?_ ?_ <;> intro h19
 ·
  have e4 : b.n < 1 := by simpa using h19
  refine Qv ?_; refine Qh ?_
  change (Xa _ _).fzt = some _ ∧ _
  refine YJ rfl ?_ rfl ?_ rfl rfl ?_ (QO _)
  ·rw [YS, if_pos (by omega)]
  ·rfl
  rfl
 have e4 : ¬ b.n < 1 := by simpa using h19
 have hA : ¬ (b.t ≠ s.id ∨ b.f < 0 ∨ b.f ≥ s.n ∨ b.n < 1) := by omega
 have hf12 : b.f.toNat < 12 := by omega
 refine YR ?_
 refine zq ?_ ?_ <;> intro h22
 ·
  have k2 : b.k = 2 := by simpa using h22
  refine QF ?_; refine zP (Qc (QbU b.v Qw.zero) rfl rfl rfl) ?_; refine Qu ?_
  refine zq ?_ ?_ <;> intro h26
  ·
   have v6 : eqV b.v Qw.zero = false := by simpa using h26
   refine Qv ?_; refine Qh ?_
   change (Xa _ _).fzt = some _ ∧ _
   refine YJ rfl ?_ rfl ?_ rfl rfl ?_ (QO _)
   ·rw [YS, if_neg hA, if_neg (by rintro (⟨g1, g2⟩ | ⟨g1, g2⟩) <;> first | omega | simp_all)]
   ·rfl
   rfl
  have v6 : eqV b.v Qw.zero = true := by simpa using h26
  have hB : (b.k = 2 ∧ eqV b.v Qw.zero = true) ∨ (b.k = 3 ∧ XZ l b.v = true) := .inl ⟨k2, v6⟩
  refine Qs ?_; refine Qd 21 (by kernel_rfl) (by kernel_rfl) ?_; refine zm ?_; refine zp (Qe rfl rfl rfl) ?_; refine Qs ?_
  refine zd 54 ?_ ?_ <;> intro h28
  ·
   have d1 : s.dec = true := h28
   refine Qcb ?_; change Qj _ _ _ _ _ _; refine Q4 ?_; refine Qh ?_
   change (Xa _ _).fzt = some _ ∧ _
   refine YJ rfl ?_ rfl ?_ rfl rfl ?_ (QO _)
   ·rw [YS, if_neg hA, if_pos hB, if_pos (by simp_all)]
   ·rfl
   rfl
  have d1 : s.dec = false := h28
  refine Qs ?_; refine vP (Xj h28) (Qe rfl rfl rfl) ?_; refine QF ?_
  refine zd 63 ?_ ?_ <;> intro h33
  ·
   have d2 : b.n ≠ s.num := by simpa using h33
   refine Q4 ?_; change Qj _ _ _ _ _ _; refine Q4 ?_; refine Qh ?_
   change (Xa _ _).fzt = some _ ∧ _
   refine YJ rfl ?_ rfl ?_ rfl rfl ?_ (QO _)
   ·rw [YS, if_neg hA, if_pos hB, if_pos (by simp_all)]
   ·rfl
   rfl
  have d2 : b.n = s.num := by simpa using h33
  refine Qs ?_; refine vP (Xj h33) (Qe rfl rfl rfl) ?_; refine Jk ?_
  refine vP (Xj h33) (Ky rfl rfl rfl b.f.toNat (by omega) hf12 rfl rfl) ?_; refine vP (Xj h33) (QbR rfl rfl (Qpg hf12 rfl) rfl rfl) ?_
  change Qj _ _ _ _ _ _; refine Qu ?_
  refine zq ?_ ?_ <;> intro h38
  ·
   have d3 : s.rep b.f.toNat = true := h38
   refine Qv ?_; refine Qh ?_
   change (Xa _ _).fzt = some _ ∧ _
   refine YJ rfl ?_ rfl ?_ rfl rfl ?_ (QO _)
   ·rw [YS, if_neg hA, if_pos hB, if_pos (by simp_all)]
   ·rfl
   rfl
  have d3 : s.rep b.f.toNat = false := h38
  refine QF ?_; refine Qh ?_
  change (Xa _ _).fzt = some _ ∧ _
  refine YJ rfl ?_ rfl ?_ rfl rfl ?_ (QO _)
  ·rw [YS, if_neg hA, if_pos hB, if_neg (by simp_all)]
  ·rfl
  rfl
 have k2 : b.k ≠ 2 := by simpa using h22
 refine QF ?_
 refine zq ?_ ?_ <;> intro h39
 rotate_left
 ·
  have k3 : b.k ≠ 3 := by simpa using h39
  refine Qv ?_; refine Qh ?_
  change (Xa _ _).fzt = some _ ∧ _
  refine YJ rfl ?_ rfl ?_ rfl rfl ?_ (QO _)
  ·rw [YS, if_neg hA, if_neg (by rintro (⟨g1, g2⟩ | ⟨g1, g2⟩) <;> first | omega | simp_all)]
  ·rfl
  rfl
 have k3 : b.k = 3 := by simpa using h39
 refine Jk ?_; refine Qd 7 (by kernel_rfl) (by kernel_rfl) ?_; refine zm ?_; refine zp (Qe rfl rfl rfl) ?_; refine Qv ?_
 refine zp (Qc (KV l b.v) rfl rfl rfl) ?_; change Qj _ _ _ _ _ _; refine Qu ?_
 refine zq ?_ ?_ <;> intro h44
 ·
  have v9 : XZ l b.v = false := by simpa using h44
  refine Qv ?_; refine Qh ?_
  change (Xa _ _).fzt = some _ ∧ _
  refine YJ rfl ?_ rfl ?_ rfl rfl ?_ (QO _)
  ·rw [YS, if_neg hA, if_neg (by rintro (⟨g1, g2⟩ | ⟨g1, g2⟩) <;> first | omega | simp_all)]
  ·rfl
  rfl
 have v9 : XZ l b.v = true := by simpa using h44
 have hB : (b.k = 2 ∧ eqV b.v Qw.zero = true) ∨ (b.k = 3 ∧ XZ l b.v = true) := .inr ⟨k3, v9⟩
 refine Qs ?_; refine Qd 21 (by kernel_rfl) (by kernel_rfl) ?_; refine zm ?_; refine zp (Qe rfl rfl rfl) ?_; refine Qs ?_
 refine zd 54 ?_ ?_ <;> intro h46
 ·
  have d1 : s.dec = true := h46
  refine Qcb ?_; change Qj _ _ _ _ _ _; refine Q4 ?_; refine Qh ?_
  change (Xa _ _).fzt = some _ ∧ _
  refine YJ rfl ?_ rfl ?_ rfl rfl ?_ (QO _)
  ·rw [YS, if_neg hA, if_pos hB, if_pos (by simp_all)]
  ·rfl
  rfl
 have d1 : s.dec = false := h46
 refine Qs ?_; refine vP (Xj h46) (Qe rfl rfl rfl) ?_; refine QF ?_
 refine zd 63 ?_ ?_ <;> intro h51
 ·
  have d2 : b.n ≠ s.num := by simpa using h51
  refine Q4 ?_; change Qj _ _ _ _ _ _; refine Q4 ?_; refine Qh ?_
  change (Xa _ _).fzt = some _ ∧ _
  refine YJ rfl ?_ rfl ?_ rfl rfl ?_ (QO _)
  ·rw [YS, if_neg hA, if_pos hB, if_pos (by simp_all)]
  ·rfl
  rfl
 have d2 : b.n = s.num := by simpa using h51
 refine Qs ?_; refine vP (Xj h51) (Qe rfl rfl rfl) ?_; refine Jk ?_; refine vP (Xj h51) (Ky rfl rfl rfl b.f.toNat (by omega) hf12 rfl rfl) ?_
 refine vP (Xj h51) (QbR rfl rfl (Qpg hf12 rfl) rfl rfl) ?_; change Qj _ _ _ _ _ _; refine Qu ?_
 refine zq ?_ ?_ <;> intro h56
 ·
  have d3 : s.rep b.f.toNat = true := h56
  refine Qv ?_; refine Qh ?_
  change (Xa _ _).fzt = some _ ∧ _
  refine YJ rfl ?_ rfl ?_ rfl rfl ?_ (QO _)
  ·rw [YS, if_neg hA, if_pos hB, if_pos (by simp_all)]
  ·rfl
  rfl
 have d3 : s.rep b.f.toNat = false := h56
 refine QF ?_; refine Qh ?_
 change (Xa _ _).fzt = some _ ∧ _
 refine YJ rfl ?_ rfl ?_ rfl rfl ?_ (QO _)
 ·rw [YS, if_neg hA, if_pos hB, if_neg (by simp_all)]
 ·rfl
 rfl
abbrev QqR (l : QD) (s : Pr) (k : Nat) : Pr := { s with v := (s.nk.take k).foldl (QR l) s.v }
theorem QrP (l : List Qw) : ∀ e ∈ l.map JV, e.length = 4 := fun e he => by
 obtain ⟨v, -, rfl⟩ := List.mem_map.1 he
 rw [Kn]; rfl
theorem Qhl {l : QD} {s : Pr} {k : Nat} {x : Qw} (h : s.nk[k]? = some x) : (s.nk.take (k + 1)).foldl (QR l) s.v = QR l ((s.nk.take k).foldl (QR l) s.v) x := by
 obtain ⟨hk, rfl⟩ := List.getElem?_eq_some_iff.1 h
 rw [List.take_succ_eq_append_getElem hk, List.foldl_append]; rfl
theorem QnH {l : QD} {s : Pr} {k : Nat} {x : Qw} (h : s.nk[k]? = some x) : QqR l s (k + 1) = { s with v := QR l ((s.nk.take k).foldl (QR l) s.v) x } := by rw [QqR, Qhl h]
theorem Qcz {l : QD} (hO : YK l) {n : Nat} (hn : 64 ≤ n) {s : Pr} (he : Qt s.v l = true) (sv : J6 n s.v) (hs : ∀ x ∈ s.nk, Qt x l = true ∧ J6 40 x) : ∀ k, k ≤ s.nk.length → Qt ((s.nk.take k).foldl (QR l) s.v) l = true ∧ J6 (n + 40 * k) ((s.nk.take k).foldl (QR l) s.v)
 | 0, _ => ⟨he, sv⟩
 | k + 1, hk => by
  obtain ⟨x, hx⟩ := Qn (show k < s.nk.length by omega)
  obtain ⟨h1, h2⟩ := Qcz hO hn he sv hs k (by omega)
  obtain ⟨h3, h4⟩ := hs x (List.mem_of_getElem? hx)
  rw [Qhl hx]
  exact ⟨(K7 l hO _ x h1 h3).el, (Qd3 (by omega) l hO _ x h1 h3 h2 h4).up (by omega)⟩
theorem Qrd (l : QD) (s : Pr) (hnum : 0 ≤ s.num ∧ s.num ≤ 1000000) (hc : Xp l = 0) (he : Qt s.v l = true) {n : Nat} (hn : 64 ≤ n) (hn2 : n + 40 * s.nk.length ≤ 90000) (sv : J6 n s.v) (hs : ∀ x ∈ s.nk, Qt x l = true ∧ J6 40 x) : GX Tryz.prog 69 [.ptr QB 0] (prH l s) (.tup []) [(QB, .var 118 (prC l (Qjr l s) (.p (.slice none 0 0)))), (QB + 1, .arr 30 4 (s.nk.map JV))] 0 := by
 refine YV [] Tryz.func69 rfl rfl 44 Tryz.ntmps69 (Nat.le_of_ble_eq_true rfl) ?_
 intro E hN
 refine Qv ?_; refine zP (Qe rfl rfl rfl) ?_; refine Qu ?_; refine zP ((X9 rfl rfl rfl (by rw [List.length_map]))) ?_; refine Qs ?_
 refine Ql (fun x : {k : Nat // k ≤ s.nk.length} => ⟨[(0, .ptr QB 0), (7, .own (QB + 1) s.nk.length), (8, i64 s.nk.length), (9, i64 (x.1 : Nat))], [(QB, .var 118 (prC l (QqR l s x.1) (.own (QB + 1) s.nk.length))), (QB + 1, .arr 30 4 (s.nk.map JV))], 0⟩) (fun x => s.nk.length - x.1) (⟨0, Nat.zero_le _⟩) ?_ ?_
 ·
  exact Qa rfl (JH trivial) ⟨rfl, rfl, rfl, rfl, rfl, (QO _), trivial⟩
 rintro ⟨k, hk⟩
 dsimp only
 refine QF ?_
 refine zq ?_ ?_ <;> intro h9
 ·
  have hlt : k < s.nk.length := by simpa using h9
  obtain ⟨x, hx⟩ := Qn hlt
  have hf := Qcz (X0 hc) hn he sv hs k hk
  have hx2 := hs x (List.mem_of_getElem? hx)
  refine QF ?_; refine zP (Xg rfl rfl rfl rfl (by rw [List.length_map]) k rfl hlt) ?_
  refine zP (Kp rfl rfl rfl (by rw [List.length_map]) (QrP _) k rfl (QM hx) (r := .agg (Qz x)) (fun _ => by cases x; rfl) rfl) ?_
  refine Qs ?_; refine Qd 13 (by kernel_rfl) (by kernel_rfl) ?_; refine Qu ?_; refine zp (Qe rfl rfl rfl) ?_; refine Qs ?_
  refine zp (Qe rfl rfl rfl) ?_; refine Qs ?_
  refine zp (Qc (Qke l _ x hc hf.1 hx2.1 (hf.2.up (by omega)) (hx2.2.up (by omega))) rfl rfl rfl) ?_; refine zp (Qe rfl rfl rfl) ?_
  refine zf ?_; change Qj _ _ _ _ _ _; refine Qs ?_
  refine zP (QZ rfl rfl rfl (by first | omega | (dsimp only; omega))) ?_
  refine zM ?_; refine Qb ?_
  exact ⟨⟨k + 1, hlt⟩, Qa rfl (JO ⟨(Q0 (by dsimp only; omega)), rfl, trivial⟩) ⟨(by dsimp only; rw [QnH hx]; rfl), rfl, rfl, rfl, rfl, (QO _), trivial⟩, by dsimp only; omega⟩
 have hge : s.nk.length ≤ k := by simpa using h9
 obtain rfl : k = s.nk.length := by omega
 rw [QqR, List.take_length]
 refine Qv ?_; refine zP (Qe rfl rfl rfl) ?_; refine Qu ?_
 refine zP (QZ rfl rfl rfl (by first | omega | (dsimp only; omega))) ?_
 refine zP (Qe rfl rfl rfl) ?_; refine Q4 ?_; refine zP (QjM rfl) ?_; refine zP (Qe rfl rfl rfl) ?_; refine Qu ?_
 refine zP (Qe rfl rfl rfl) ?_; refine Qu ?_; refine zP (Qe rfl rfl rfl) ?_; refine Qu ?_; refine Qb ?_
 change (Xa _ _).ntt = _ ∧ _
 refine Jq rfl ?_ rfl rfl rfl ⟨rfl, rfl, rfl, rfl, rfl, QO _, trivial⟩
 rfl
theorem XC {s : Pr} {b : JR} (h : b.k = 2) : KF s b = { s with rep := upB s.rep b.f.toNat true, acks := s.acks + 1 } := if_pos h
theorem Xf {s : Pr} {b : JR} (h : ¬ b.k = 2) : KF s b = { s with rep := upB s.rep b.f.toNat true, nk := s.nk ++ [b.v] } := if_neg h
theorem QrL {l : QD} {s : Pr} {x : AV} {j : Nat} (h : j < 12) {y : AV} : 14 + j * 1 + [y].length ≤ (prC l s x).length := by show 14 + j * 1 + 1 ≤ 29; omega
theorem Qbi {nk : List Qw} {e' : List (List AV)} (h : ∀ e ∈ e', e.length = 4) : ∀ e ∈ nk.map JV ++ e', e.length = 4 := fun e he => by
 rcases List.mem_append.1 he with he | he
 ·exact QrP nk e he
 exact h e he
theorem Yd {nk : List Qw} {z : List AV} {v : Qw} : (nk.map JV ++ [z]).set nk.length (Qz v) = (nk ++ [v]).map JV := by
 rw [List.set_append]
 simp [Kn]
theorem Qq0 {l : QD} {s : Pr} (h : s.acks ≥ s.q) : Qcj l s = { s with dec := true } := if_pos h
theorem Qpi {l : QD} {s : Pr} (h : ¬ s.acks ≥ s.q) (h2 : ¬ s.acks + s.nk.length ≥ s.q) : Qcj l s = s := by rw [Qcj, if_neg h, if_neg h2]
theorem QmB {l : QD} {s : Pr} (h : ¬ s.acks ≥ s.q) (h2 : s.acks + s.nk.length ≥ s.q) : Qcj l s = Qjr l s := by rw [Qcj, if_neg h, if_pos h2]
theorem Qkc {l : QD} {s : Pr} {b : JR} (h : YS l s b = 0) (k2 : ¬ b.k = 2) : Qt b.v l = true := by
 obtain ⟨-, -, -, h4⟩ := QeN h
 rcases h4 with h4 | ⟨-, h4, -⟩
 ·exact absurd h4 k2
 exact h4
theorem XS {st : St} {q n : Nat} {te : TypeId} {k : Nat} {es : List (List AV)} (hq : Qi st.H q = some (.arr te k es)) (h : es.length = n) : st.cells1 (.own q n) = some [.own q n] := by
 simp only [St.cells1, St.cell1, hq, h, Nat.beq_refl, cond_true]
theorem QfH {s : Pr} {b : JR} : (KF s b).id = s.id ∧ (KF s b).n = s.n ∧ (KF s b).q = s.q ∧ (KF s b).v = s.v ∧ (KF s b).num = s.num ∧ (KF s b).dec = s.dec := by unfold KF; split <;> simp
theorem Qqm (l : QD) (s : Pr) (b : JR) (h12 : s.n ≤ 12) (hne : ¬ YS l s b = 0) : GX Tryz.prog 27 [.ptr QB 0, .agg (Jx b)] (prH l s) (i64 (YS l s b)) (prH l s) 1 := by
 refine YV [4] Tryz.func27 rfl rfl 76 Tryz.ntmps27 (Nat.le_of_ble_eq_true rfl) ?_
 intro E hN
 refine XB ?_; refine zP (XE QB (QB + 1) (QiO l s b h12) (Xe _) rfl rfl rfl rfl rfl rfl rfl rfl rfl rfl) ?_; refine QF ?_
 refine zP (QC (b := true) rfl rfl rfl (by simpa using hne)) ?_; refine Q4 ?_; refine Qh ?_
 change (Xa _ _).ntt = _ ∧ _
 refine Jq rfl ?_ rfl rfl rfl ⟨rfl, rfl, rfl, rfl, rfl, QO _, trivial⟩
 rfl
theorem Qqc (l : QD) (s : Pr) (b : JR) (h12 : s.n ≤ 12) (hck : YS l s b = 0) (hc : Xp l = 0) (sb : J6 40 b.v) (hlen : s.nk.length ≤ 1000) (hacks : 0 ≤ s.acks ∧ s.acks ≤ 1000) (hk : ¬ (¬ (KF s b).acks ≥ (KF s b).q ∧ (KF s b).acks + (KF s b).nk.length ≥ (KF s b).q)) (ha2 : 0 ≤ (KF s b).acks ∧ (KF s b).acks ≤ 1001) (hl2 : (KF s b).nk.length ≤ 1001) : GX Tryz.prog 27 [.ptr QB 0, .agg (Jx b)] (prH l s) (i64 0) (prH l (Qcj l (KF s b))) 1 := by
 obtain ⟨f0, f1, frep, fk⟩ := QeN hck
 have hf12 : b.f.toNat < 12 := by omega
 have hcg : GC Tryz.prog 68 [.ptr QB 0, .agg (Jx b)] (prH l s) (i64 0) (prH l s) := by
  have h := QiO l s b h12
  rwa [hck] at h
 have htk := QfH (s := s) (b := b)
 refine YV [4] Tryz.func27 rfl rfl 76 Tryz.ntmps27 (Nat.le_of_ble_eq_true rfl) ?_
 intro E hN
 refine XB ?_; refine zP (XE QB (QB + 1) hcg (Xe _) rfl rfl rfl rfl rfl rfl rfl rfl rfl rfl) ?_; refine JA ?_
 refine Wm (⟨[(0, .ptr QB 0), (3, .ptr 0 0)], [(QB, .var 118 (prC l { s with rep := upB s.rep b.f.toNat true } (.own (QB + 1) s.nk.length))), (QB + 1, .arr 30 4 (s.nk.map JV)), (0, .var 54 (Jx b))], 1⟩) ?_ ?_
 ·
  refine Qd 6 (by kernel_rfl) (by kernel_rfl) ?_; refine Qs ?_; refine zp (Qe rfl rfl rfl) ?_; refine zf ?_
  refine zp (Ky rfl rfl rfl b.f.toNat (by omega) hf12 rfl rfl) ?_; change Qj _ _ _ _ _ _
  refine Qeb rfl rfl rfl rfl rfl rfl (QrL hf12) rfl rfl rfl (Qn7 hf12) ?_; refine Qb ?_
  exact Qa rfl (JI trivial) ⟨rfl, rfl, rfl, rfl, rfl, (QO _), rfl, rfl, rfl, trivial⟩
 refine Wm (⟨[(0, .ptr QB 0)], [(QB, .var 118 (prC l (KF s b) (.own (QB + 1) (KF s b).nk.length))), (QB + 1, .arr 30 4 ((KF s b).nk.map JV))], 1⟩) ?_ ?_
 ·
  refine Q8 ?_
  refine zq ?_ ?_ <;> intro h16
  ·
   have k2 : b.k = 2 := by simpa using h16
   refine Qu ?_; refine zP (Qe rfl rfl rfl) ?_; refine Qu ?_
   refine zP (QZ rfl rfl rfl (by first | omega | (dsimp only; omega))) ?_
   refine zP (Qe rfl rfl rfl) ?_; refine Qu ?_; refine Qb ?_
   exact Qa rfl (Xv trivial) ⟨(by first | (rw [XC k2]; rfl) | (rw [Xf k2, List.length_append]; rfl)), rfl, rfl, (by first | (rw [XC k2]; rfl) | (rw [Xf k2]; exact congrArg some (congrArg (Qx.arr _ 4) Yd))), rfl, (QO _), trivial⟩
  have k2 : ¬ b.k = 2 := by simpa using h16
  have hbe := Qkc hck k2
  refine QcO 15 6 #[true, true, true, true, true, true, true, true, true, true, true, true, true, true, true, false, false, false, false, false, false] (by kernel_rfl) (by kernel_rfl) (by kernel_rfl) (by kernel_rfl) (by kernel_rfl) (by kernel_rfl) ?_
  refine zm ?_; refine zp (Qe rfl rfl rfl) ?_; refine Qs ?_; refine zp (Qe rfl rfl rfl) ?_; refine Q8 ?_
  refine zp (Qc (Qed l b.v hc hbe (sb.up (by decide))) rfl rfl rfl) ?_; refine zp ((X9 rfl rfl rfl (by rw [List.length_map]))) ?_
  refine zp (QE rfl rfl rfl rfl (by exact rfl) (by decide) (by decide)) ?_
  refine ⟨_, Kx.refl, ?_⟩
  refine Qy [15] (by kernel_rfl) rfl ⟨.inr (.inr (Qa2 hN rfl rfl rfl rfl (by rw [List.length_map]) rfl rfl rfl (by rw [List.length_map]; refine ⟨?_, ?_⟩ <;> simp [Qo] <;> omega) rfl rfl rfl rfl ?_)), trivial⟩
  change AN _ _ _ _ _ _ _ _
  refine Qy [16, 18] (by kernel_rfl) rfl ⟨.inl (QK rfl ?_), .inl (QK rfl ?_), trivial⟩
  ·
   refine zp (Xg rfl rfl rfl rfl (by simp [Qo]) s.nk.length rfl (by simp [Qo])) ?_
   change AN _ _ _ _ _ _ _ _
   refine Qy [17, 18] (by kernel_rfl) rfl ⟨.inr (.inl (QV rfl rfl rfl rfl (by simp [Qo]) s.nk.length rfl (by simp [Qo]) rfl rfl rfl rfl (Qbi (by simp [Qo])) rfl rfl rfl rfl ?_)), .inl (QK rfl ?_), trivial⟩
   ·
    change AN _ _ _ _ _ _ _ _
    refine Qy [18] (by kernel_rfl) rfl ⟨.inl (QK rfl ?_), trivial⟩
    refine zp (Qe rfl rfl rfl) ?_
    change AN _ _ _ _ _ _ _ _
    refine Qy [19] (by kernel_rfl) rfl ⟨.inl (QK rfl ?_), trivial⟩
    refine zf ?_
    change AN _ _ _ _ _ _ _ _
    refine Qy [20] (by kernel_rfl) rfl ⟨.inr (.inl (Xz rfl rfl rfl rfl rfl (XS rfl (by simp [Qo])) rfl (Nat.le_of_ble_eq_true rfl) rfl rfl rfl rfl ?_)), trivial⟩
    change AN _ _ _ _ _ _ _ _
    refine Xq (by kernel_rfl) ?_
    exact Qa rfl (Xv trivial) ⟨(by first | (rw [XC k2]; rfl) | (rw [Xf k2, List.length_append]; rfl)), rfl, rfl, (by first | (rw [XC k2]; rfl) | (rw [Xf k2]; exact congrArg some (congrArg (Qx.arr _ 4) Yd))), rfl, (QO _), trivial⟩
   refine zp (Qe rfl rfl rfl) ?_
   change AN _ _ _ _ _ _ _ _
   refine Qy [17, 19] (by kernel_rfl) rfl ⟨.inr (.inl (QV rfl rfl rfl rfl (by simp [Qo]) s.nk.length rfl (by simp [Qo]) rfl rfl rfl rfl (Qbi (by simp [Qo])) rfl rfl rfl rfl ?_)), .inl (QK rfl ?_), trivial⟩
   ·
    change AN _ _ _ _ _ _ _ _
    refine Qy [19] (by kernel_rfl) rfl ⟨.inl (QK rfl ?_), trivial⟩
    refine zf ?_
    change AN _ _ _ _ _ _ _ _
    refine Qy [20] (by kernel_rfl) rfl ⟨.inr (.inl (Xz rfl rfl rfl rfl rfl (XS rfl (by simp [Qo])) rfl (Nat.le_of_ble_eq_true rfl) rfl rfl rfl rfl ?_)), trivial⟩
    change AN _ _ _ _ _ _ _ _
    refine Xq (by kernel_rfl) ?_
    exact Qa rfl (Xv trivial) ⟨(by first | (rw [XC k2]; rfl) | (rw [Xf k2, List.length_append]; rfl)), rfl, rfl, (by first | (rw [XC k2]; rfl) | (rw [Xf k2]; exact congrArg some (congrArg (Qx.arr _ 4) Yd))), rfl, (QO _), trivial⟩
   refine zf ?_
   change AN _ _ _ _ _ _ _ _
   refine Qy [17, 20] (by kernel_rfl) rfl ⟨.inr (.inl (QV rfl rfl rfl rfl (by simp [Qo]) s.nk.length rfl (by simp [Qo]) rfl rfl rfl rfl (Qbi (by simp [Qo])) rfl rfl rfl rfl ?_)), .inr (.inl (Xz rfl rfl rfl rfl rfl (XS rfl (by simp [Qo])) rfl (Nat.le_of_ble_eq_true rfl) rfl rfl rfl rfl ?_)), trivial⟩
   ·
    change AN _ _ _ _ _ _ _ _
    refine Qy [20] (by kernel_rfl) rfl ⟨.inr (.inl (Xz rfl rfl rfl rfl rfl (XS rfl (by simp [Qo])) rfl (Nat.le_of_ble_eq_true rfl) rfl rfl rfl rfl ?_)), trivial⟩
    change AN _ _ _ _ _ _ _ _
    refine Xq (by kernel_rfl) ?_
    exact Qa rfl (Xv trivial) ⟨(by first | (rw [XC k2]; rfl) | (rw [Xf k2, List.length_append]; rfl)), rfl, rfl, (by first | (rw [XC k2]; rfl) | (rw [Xf k2]; exact congrArg some (congrArg (Qx.arr _ 4) Yd))), rfl, (QO _), trivial⟩
   change AN _ _ _ _ _ _ _ _
   refine Qy [17] (by kernel_rfl) rfl ⟨.inr (.inl (QV rfl rfl rfl rfl (by simp [Qo]) s.nk.length rfl (by simp [Qo]) rfl rfl rfl rfl (Qbi (by simp [Qo])) rfl rfl rfl rfl ?_)), trivial⟩
   change AN _ _ _ _ _ _ _ _
   refine Xq (by kernel_rfl) ?_
   exact Qa rfl (Xv trivial) ⟨(by first | (rw [XC k2]; rfl) | (rw [Xf k2, List.length_append]; rfl)), rfl, rfl, (by first | (rw [XC k2]; rfl) | (rw [Xf k2]; exact congrArg some (congrArg (Qx.arr _ 4) Yd))), rfl, (QO _), trivial⟩
  refine zp (Qe rfl rfl rfl) ?_
  change AN _ _ _ _ _ _ _ _
  refine Qy [16, 19] (by kernel_rfl) rfl ⟨.inl (QK rfl ?_), .inl (QK rfl ?_), trivial⟩
  ·
   refine zp (Xg rfl rfl rfl rfl (by simp [Qo]) s.nk.length rfl (by simp [Qo])) ?_
   change AN _ _ _ _ _ _ _ _
   refine Qy [17, 19] (by kernel_rfl) rfl ⟨.inr (.inl (QV rfl rfl rfl rfl (by simp [Qo]) s.nk.length rfl (by simp [Qo]) rfl rfl rfl rfl (Qbi (by simp [Qo])) rfl rfl rfl rfl ?_)), .inl (QK rfl ?_), trivial⟩
   ·
    change AN _ _ _ _ _ _ _ _
    refine Qy [19] (by kernel_rfl) rfl ⟨.inl (QK rfl ?_), trivial⟩
    refine zf ?_
    change AN _ _ _ _ _ _ _ _
    refine Qy [20] (by kernel_rfl) rfl ⟨.inr (.inl (Xz rfl rfl rfl rfl rfl (XS rfl (by simp [Qo])) rfl (Nat.le_of_ble_eq_true rfl) rfl rfl rfl rfl ?_)), trivial⟩
    change AN _ _ _ _ _ _ _ _
    refine Xq (by kernel_rfl) ?_
    exact Qa rfl (Xv trivial) ⟨(by first | (rw [XC k2]; rfl) | (rw [Xf k2, List.length_append]; rfl)), rfl, rfl, (by first | (rw [XC k2]; rfl) | (rw [Xf k2]; exact congrArg some (congrArg (Qx.arr _ 4) Yd))), rfl, (QO _), trivial⟩
   refine zf ?_
   change AN _ _ _ _ _ _ _ _
   refine Qy [17, 20] (by kernel_rfl) rfl ⟨.inr (.inl (QV rfl rfl rfl rfl (by simp [Qo]) s.nk.length rfl (by simp [Qo]) rfl rfl rfl rfl (Qbi (by simp [Qo])) rfl rfl rfl rfl ?_)), .inr (.inl (Xz rfl rfl rfl rfl rfl (XS rfl (by simp [Qo])) rfl (Nat.le_of_ble_eq_true rfl) rfl rfl rfl rfl ?_)), trivial⟩
   ·
    change AN _ _ _ _ _ _ _ _
    refine Qy [20] (by kernel_rfl) rfl ⟨.inr (.inl (Xz rfl rfl rfl rfl rfl (XS rfl (by simp [Qo])) rfl (Nat.le_of_ble_eq_true rfl) rfl rfl rfl rfl ?_)), trivial⟩
    change AN _ _ _ _ _ _ _ _
    refine Xq (by kernel_rfl) ?_
    exact Qa rfl (Xv trivial) ⟨(by first | (rw [XC k2]; rfl) | (rw [Xf k2, List.length_append]; rfl)), rfl, rfl, (by first | (rw [XC k2]; rfl) | (rw [Xf k2]; exact congrArg some (congrArg (Qx.arr _ 4) Yd))), rfl, (QO _), trivial⟩
   change AN _ _ _ _ _ _ _ _
   refine Qy [17] (by kernel_rfl) rfl ⟨.inr (.inl (QV rfl rfl rfl rfl (by simp [Qo]) s.nk.length rfl (by simp [Qo]) rfl rfl rfl rfl (Qbi (by simp [Qo])) rfl rfl rfl rfl ?_)), trivial⟩
   change AN _ _ _ _ _ _ _ _
   refine Xq (by kernel_rfl) ?_
   exact Qa rfl (Xv trivial) ⟨(by first | (rw [XC k2]; rfl) | (rw [Xf k2, List.length_append]; rfl)), rfl, rfl, (by first | (rw [XC k2]; rfl) | (rw [Xf k2]; exact congrArg some (congrArg (Qx.arr _ 4) Yd))), rfl, (QO _), trivial⟩
  refine zf ?_
  change AN _ _ _ _ _ _ _ _
  refine Qy [16, 20] (by kernel_rfl) rfl ⟨.inl (QK rfl ?_), .inr (.inl (Xz rfl rfl rfl rfl rfl (XS rfl (by simp [Qo])) rfl (Nat.le_of_ble_eq_true rfl) rfl rfl rfl rfl ?_)), trivial⟩
  ·
   refine zp (Xg rfl rfl rfl rfl (by simp [Qo]) s.nk.length rfl (by simp [Qo])) ?_
   change AN _ _ _ _ _ _ _ _
   refine Qy [17, 20] (by kernel_rfl) rfl ⟨.inr (.inl (QV rfl rfl rfl rfl (by simp [Qo]) s.nk.length rfl (by simp [Qo]) rfl rfl rfl rfl (Qbi (by simp [Qo])) rfl rfl rfl rfl ?_)), .inr (.inl (Xz rfl rfl rfl rfl rfl (XS rfl (by simp [Qo])) rfl (Nat.le_of_ble_eq_true rfl) rfl rfl rfl rfl ?_)), trivial⟩
   ·
    change AN _ _ _ _ _ _ _ _
    refine Qy [20] (by kernel_rfl) rfl ⟨.inr (.inl (Xz rfl rfl rfl rfl rfl (XS rfl (by simp [Qo])) rfl (Nat.le_of_ble_eq_true rfl) rfl rfl rfl rfl ?_)), trivial⟩
    change AN _ _ _ _ _ _ _ _
    refine Xq (by kernel_rfl) ?_
    exact Qa rfl (Xv trivial) ⟨(by first | (rw [XC k2]; rfl) | (rw [Xf k2, List.length_append]; rfl)), rfl, rfl, (by first | (rw [XC k2]; rfl) | (rw [Xf k2]; exact congrArg some (congrArg (Qx.arr _ 4) Yd))), rfl, (QO _), trivial⟩
   change AN _ _ _ _ _ _ _ _
   refine Qy [17] (by kernel_rfl) rfl ⟨.inr (.inl (QV rfl rfl rfl rfl (by simp [Qo]) s.nk.length rfl (by simp [Qo]) rfl rfl rfl rfl (Qbi (by simp [Qo])) rfl rfl rfl rfl ?_)), trivial⟩
   change AN _ _ _ _ _ _ _ _
   refine Xq (by kernel_rfl) ?_
   exact Qa rfl (Xv trivial) ⟨(by first | (rw [XC k2]; rfl) | (rw [Xf k2, List.length_append]; rfl)), rfl, rfl, (by first | (rw [XC k2]; rfl) | (rw [Xf k2]; exact congrArg some (congrArg (Qx.arr _ 4) Yd))), rfl, (QO _), trivial⟩
  change AN _ _ _ _ _ _ _ _
  refine Qy [16] (by kernel_rfl) rfl ⟨.inl (QK rfl ?_), trivial⟩
  refine zp (Xg rfl rfl rfl rfl (by simp [Qo]) s.nk.length rfl (by simp [Qo])) ?_
  change AN _ _ _ _ _ _ _ _
  refine Qy [17] (by kernel_rfl) rfl ⟨.inr (.inl (QV rfl rfl rfl rfl (by simp [Qo]) s.nk.length rfl (by simp [Qo]) rfl rfl rfl rfl (Qbi (by simp [Qo])) rfl rfl rfl rfl ?_)), trivial⟩
  change AN _ _ _ _ _ _ _ _
  refine Xq (by kernel_rfl) ?_
  exact Qa rfl (Xv trivial) ⟨(by first | (rw [XC k2]; rfl) | (rw [Xf k2, List.length_append]; rfl)), rfl, rfl, (by first | (rw [XC k2]; rfl) | (rw [Xf k2]; exact congrArg some (congrArg (Qx.arr _ 4) Yd))), rfl, (QO _), trivial⟩
 refine Qu ?_; refine Qd 8 (by kernel_rfl) (by kernel_rfl) ?_; refine zm ?_; refine zp (Qe rfl rfl rfl) ?_; refine Qs ?_
 refine zp (Qe rfl rfl rfl) ?_; refine Qu ?_; change Qj _ _ _ _ _ _; refine Qu ?_
 refine zq ?_ ?_ <;> intro h49
 ·
  have h8 : (KF s b).acks ≥ (KF s b).q := by simpa using h49
  rw [Qq0 h8]
  refine Qu ?_; refine zP (Qe rfl rfl rfl) ?_; refine Q4 ?_; refine Qh ?_
  change (Xa _ _).ntt = _ ∧ _
  refine Jq rfl ?_ rfl rfl rfl ⟨rfl, rfl, rfl, rfl, rfl, QO _, trivial⟩
  rfl
 have h8 : ¬ (KF s b).acks ≥ (KF s b).q := by simpa using h49
 refine Jk ?_; refine Qd 14 (by kernel_rfl) (by kernel_rfl) ?_; refine zm ?_; refine zp (Qe rfl rfl rfl) ?_; refine Qs ?_
 refine zp (Qe rfl rfl rfl) ?_; refine Qu ?_; refine zp ((X9 rfl rfl rfl (by rw [List.length_map]))) ?_
 refine zp (QZ rfl rfl rfl (by first | omega | (dsimp only; omega))) ?_
 refine zm ?_; refine zp (Qe rfl rfl rfl) ?_; refine Qu ?_; change Qj _ _ _ _ _ _; refine Qu ?_
 refine zq ?_ ?_ <;> intro h60
 ·
  exact absurd ⟨h8, by simpa using h60⟩ hk
 have h10 : ¬ (KF s b).acks + (KF s b).nk.length ≥ (KF s b).q := by simpa using h60
 rw [Qpi h8 h10]
 refine QF ?_; refine Qh ?_
 change (Xa _ _).ntt = _ ∧ _
 refine Jq rfl ?_ rfl rfl rfl ⟨rfl, rfl, rfl, rfl, rfl, QO _, trivial⟩
 rfl
end Go.Proofs.YtnkkokmmeplbgaaGreat
