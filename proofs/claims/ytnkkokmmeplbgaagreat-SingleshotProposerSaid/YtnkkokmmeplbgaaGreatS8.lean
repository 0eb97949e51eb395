/-
  Contracts: the proposer, at any state: Receive that refines,
-/
import Derived.Test.YtnkkokmmeplbgaaGreatS7
import Derived.Test.YtnkkokmmeplbgaaGreatA10
import Derived.Test.YtnkkokmmeplbgaaGreatA11
import Derived.Test.YtnkkokmmeplbgaaGreatS2
import Derived.Test.YtnkkokmmeplbgaaGreatB15
namespace Go.Proofs.YtnkkokmmeplbgaaGreat
set_option maxRecDepth 100000
set_option maxHeartbeats 1000000
open Go.RowKit
theorem Qde {Ho : List (Nat × Qx)} {es : List (List AV)} (h : ∀ e ∈ es, fzs e = some e) : es.flatten.all (Qdb Ho) = true := by
 refine List.all_eq_true.2 fun x hx => ?_
 obtain ⟨e, he, hxe⟩ := List.mem_flatten.1 hx
 obtain ⟨i, hi⟩ := List.getElem?_of_mem hxe
 have := (Yy (h e he)).2 i x x hi hi
 cases x with
 | sl es tk => cases tk with
  | none => rfl
  | some o => simp [AV.fz1] at this
 | ptr o off => simp [AV.fz1] at this
 | own o n => simp [AV.fz1] at this
 | eptr o n off => simp [AV.fz1] at this
 | agg => simp [AV.fz1] at this
 | tup => simp [AV.fz1] at this
 | fn => simp [AV.fz1] at this
 | _ => rfl
theorem Qby {ρ : List (Nat × Nat)} {H : List (Nat × Qx)} {q : Nat} {te : TypeId} {k : Nat} {es : List (List AV)} (h : ∀ e ∈ es, fzs e = some e) (hl : Qi H q = some (.arr te k es)) : Qi H q = some (Wu ρ (.arr te k es)) := by
 rw [hl]; simp only [Wu, QgI h]
theorem QbG {ρ : List (Nat × Nat)} {q1 q2 : Nat} {T te : TypeId} {k : Nat} {cs cs' : List AV} {es : List (List AV)} (h : ∀ e ∈ es, fzs e = some e) (hcs : cs.map (QaC ρ) = cs') : [(q1, Qx.var T cs), (q2, .arr te k es)].map (fun p => (rn ρ p.1, Wu ρ p.2)) = [(rn ρ q1, .var T cs'), (rn ρ q2, .arr te k es)] := by
 subst hcs
 simp only [List.map_cons, List.map_nil, Wu, QgI h]
theorem Qqk (l : QD) (s : Pr) (b : JR) (h12 : s.n ≤ 12) (hck : YS l s b = 0) (hc : Xp l = 0) (sb : J6 40 b.v) (hlen : s.nk.length ≤ 1000) (hacks : 0 ≤ s.acks ∧ s.acks ≤ 1000) (h8 : ¬ (KF s b).acks ≥ (KF s b).q) (h10 : (KF s b).acks + (KF s b).nk.length ≥ (KF s b).q) (ha2 : 0 ≤ (KF s b).acks ∧ (KF s b).acks ≤ 1001) (hl2 : (KF s b).nk.length ≤ 1001) (hnum : 0 ≤ (KF s b).num ∧ (KF s b).num ≤ 1000000) (he : Qt (KF s b).v l = true) {n : Nat} (hn : 64 ≤ n) (hn2 : n + 40 * (KF s b).nk.length ≤ 90000) (sv : J6 n (KF s b).v) (hs : ∀ x ∈ (KF s b).nk, Qt x l = true ∧ J6 40 x) : GX Tryz.prog 27 [.ptr QB 0, .agg (Jx b)] (prH l s) (i64 0) [(QB, .var 118 (prC l (Qcj l (KF s b)) (.p (.slice none 0 0)))), (QB + 1, .arr 30 4 ((KF s b).nk.map JV))] 1 := by
 obtain ⟨f0, f1, frep, fk⟩ := QeN hck
 have hf12 : b.f.toNat < 12 := by omega
 have hcg : GC Tryz.prog 68 [.ptr QB 0, .agg (Jx b)] (prH l s) (i64 0) (prH l s) := by
  have h := QiO l s b h12
  rwa [hck] at h
 have htk := QfH (s := s) (b := b)
 refine YV [4] Tryz.func27 rfl rfl 76 Tryz.ntmps27 (Nat.le_of_ble_eq_true rfl) ?_
 intro E hN
 refine XB ?_; refine zP (XE QB (QB + 1) hcg (Xe _) rfl rfl rfl rfl rfl rfl rfl rfl rfl rfl) ?_; refine JA ?_
 refine Wm (⟨[(0, .ptr QB 0), (3, .ptr 0 0)], [(QB, .var 118 (prC l { s with rep := upB s.rep b.f.toNat true } (.own (QB + 1) s.nk.length))), (QB + 1, .arr 30 4 (s.nk.map JV)), (0, .var 54 (Jx b))], 1⟩) ?_ ?_
 ·
  refine Qd 6 (by kernel_rfl) (by kernel_rfl) ?_; refine Qs ?_; refine zp (Qe rfl rfl rfl) ?_; refine zf ?_
  refine zp (Ky rfl rfl rfl b.f.toNat (by omega) hf12 rfl rfl) ?_; change Qj _ _ _ _ _ _
  refine Qeb rfl rfl rfl rfl rfl rfl (QrL hf12) rfl rfl rfl (Qn7 hf12) ?_; refine Qb ?_
  exact Qa rfl (JI trivial) ⟨rfl, rfl, rfl, rfl, rfl, (QO _), rfl, rfl, rfl, trivial⟩
 refine Wm (⟨[(0, .ptr QB 0)], [(QB, .var 118 (prC l (KF s b) (.own (QB + 1) (KF s b).nk.length))), (QB + 1, .arr 30 4 ((KF s b).nk.map JV))], 1⟩) ?_ ?_
 ·
  refine Q8 ?_
  refine zq ?_ ?_ <;> intro h16
  ·
   have k2 : b.k = 2 := by simpa using h16
   refine Qu ?_; refine zP (Qe rfl rfl rfl) ?_; refine Qu ?_
   refine zP (QZ rfl rfl rfl (by first | omega | (dsimp only; omega))) ?_
   refine zP (Qe rfl rfl rfl) ?_; refine Qu ?_; refine Qb ?_
   exact Qa rfl (Xv trivial) ⟨(by first | (rw [XC k2]; rfl) | (rw [Xf k2, List.length_append]; rfl)), rfl, rfl, (by first | (rw [XC k2]; rfl) | (rw [Xf k2]; exact congrArg some (congrArg (Qx.arr _ 4) Yd))), rfl, (QO _), trivial⟩
  have k2 : ¬ b.k = 2 := by simpa using h16
  have hbe := Qkc hck k2
  refine QcO 15 6 #[true, true, true, true, true, true, true, true, true, true, true, true, true, true, true, false, false, false, false, false, false] (by kernel_rfl) (by kernel_rfl) (by kernel_rfl) (by kernel_rfl) (by kernel_rfl) (by kernel_rfl) ?_
  refine zm ?_; refine zp (Qe rfl rfl rfl) ?_; refine Qs ?_; refine zp (Qe rfl rfl rfl) ?_; refine Q8 ?_
  refine zp (Qc (Qed l b.v hc hbe (sb.up (by decide))) rfl rfl rfl) ?_; refine zp ((X9 rfl rfl rfl (by rw [List.length_map]))) ?_
  refine zp (QE rfl rfl rfl rfl (by exact rfl) (by decide) (by decide)) ?_
  refine ⟨_, Kx.refl, ?_⟩
  refine Qy [15] (by kernel_rfl) rfl ⟨.inr (.inr (Qa2 hN rfl rfl rfl rfl (by rw [List.length_map]) rfl rfl rfl (by rw [List.length_map]; refine ⟨?_, ?_⟩ <;> simp [Qo] <;> omega) rfl rfl rfl rfl ?_)), trivial⟩
  change AN _ _ _ _ _ _ _ _
  refine Qy [16, 18] (by kernel_rfl) rfl ⟨.inl (QK rfl ?_), .inl (QK rfl ?_), trivial⟩
  ·
   refine zp (Xg rfl rfl rfl rfl (by simp [Qo]) s.nk.length rfl (by simp [Qo])) ?_
   change AN _ _ _ _ _ _ _ _
   refine Qy [17, 18] (by kernel_rfl) rfl ⟨.inr (.inl (QV rfl rfl rfl rfl (by simp [Qo]) s.nk.length rfl (by simp [Qo]) rfl rfl rfl rfl (Qbi (by simp [Qo])) rfl rfl rfl rfl ?_)), .inl (QK rfl ?_), trivial⟩
   ·
    change AN _ _ _ _ _ _ _ _
    refine Qy [18] (by kernel_rfl) rfl ⟨.inl (QK rfl ?_), trivial⟩
    refine zp (Qe rfl rfl rfl) ?_
    change AN _ _ _ _ _ _ _ _
    refine Qy [19] (by kernel_rfl) rfl ⟨.inl (QK rfl ?_), trivial⟩
    refine zf ?_
    change AN _ _ _ _ _ _ _ _
    refine Qy [20] (by kernel_rfl) rfl ⟨.inr (.inl (Xz rfl rfl rfl rfl rfl (XS rfl (by simp [Qo])) rfl (Nat.le_of_ble_eq_true rfl) rfl rfl rfl rfl ?_)), trivial⟩
    change AN _ _ _ _ _ _ _ _
    refine Xq (by kernel_rfl) ?_
    exact Qa rfl (Xv trivial) ⟨(by first | (rw [XC k2]; rfl) | (rw [Xf k2, List.length_append]; rfl)), rfl, rfl, (by first | (rw [XC k2]; rfl) | (rw [Xf k2]; exact congrArg some (congrArg (Qx.arr _ 4) Yd))), rfl, (QO _), trivial⟩
   refine zp (Qe rfl rfl rfl) ?_
   change AN _ _ _ _ _ _ _ _
   refine Qy [17, 19] (by kernel_rfl) rfl ⟨.inr (.inl (QV rfl rfl rfl rfl (by simp [Qo]) s.nk.length rfl (by simp [Qo]) rfl rfl rfl rfl (Qbi (by simp [Qo])) rfl rfl rfl rfl ?_)), .inl (QK rfl ?_), trivial⟩
   ·
    change AN _ _ _ _ _ _ _ _
    refine Qy [19] (by kernel_rfl) rfl ⟨.inl (QK rfl ?_), trivial⟩
    refine zf ?_
    change AN _ _ _ _ _ _ _ _
    refine Qy [20] (by kernel_rfl) rfl ⟨.inr (.inl (Xz rfl rfl rfl rfl rfl (XS rfl (by simp [Qo])) rfl (Nat.le_of_ble_eq_true rfl) rfl rfl rfl rfl ?_)), trivial⟩
    change AN _ _ _ _ _ _ _ _
    refine Xq (by kernel_rfl) ?_
    exact Qa rfl (Xv trivial) ⟨(by first | (rw [XC k2]; rfl) | (rw [Xf k2, List.length_append]; rfl)), rfl, rfl, (by first | (rw [XC k2]; rfl) | (rw [Xf k2]; exact congrArg some (congrArg (Qx.arr _ 4) Yd))), rfl, (QO _), trivial⟩
   refine zf ?_
   change AN _ _ _ _ _ _ _ _
   refine Qy [17, 20] (by kernel_rfl) rfl ⟨.inr (.inl (QV rfl rfl rfl rfl (by simp [Qo]) s.nk.length rfl (by simp [Qo]) rfl rfl rfl rfl (Qbi (by simp [Qo])) rfl rfl rfl rfl ?_)), .inr (.inl (Xz rfl rfl rfl rfl rfl (XS rfl (by simp [Qo])) rfl (Nat.le_of_ble_eq_true rfl) rfl rfl rfl rfl ?_)), trivial⟩
   ·
    change AN _ _ _ _ _ _ _ _
    refine Qy [20] (by kernel_rfl) rfl ⟨.inr (.inl (Xz rfl rfl rfl rfl rfl (XS rfl (by simp [Qo])) rfl (Nat.le_of_ble_eq_true rfl) rfl rfl rfl rfl ?_)), trivial⟩
    change AN _ _ _ _ _ _ _ _
    refine Xq (by kernel_rfl) ?_
    exact Qa rfl (Xv trivial) ⟨(by first | (rw [XC k2]; rfl) | (rw [Xf k2, List.length_append]; rfl)), rfl, rfl, (by first | (rw [XC k2]; rfl) | (rw [Xf k2]; exact congrArg some (congrArg (Qx.arr _ 4) Yd))), rfl, (QO _), trivial⟩
   change AN _ _ _ _ _ _ _ _
   refine Qy [17] (by kernel_rfl) rfl ⟨.inr (.inl (QV rfl rfl rfl rfl (by simp [Qo]) s.nk.length rfl (by simp [Qo]) rfl rfl rfl rfl (Qbi (by simp [Qo])) rfl rfl rfl rfl ?_)), trivial⟩
   change AN _ _ _ _ _ _ _ _
   refine Xq (by kernel_rfl) ?_
   exact Qa rfl (Xv trivial) ⟨(by first | (rw [XC k2]; rfl) | (rw [Xf k2, List.length_append]; rfl)), rfl, rfl, (by first | (rw [XC k2]; rfl) | (rw [Xf k2]; exact congrArg some (congrArg (Qx.arr _ 4) Yd))), rfl, (QO _), trivial⟩
  refine zp (Qe rfl rfl rfl) ?_
  change AN _ _ _ _ _ _ _ _
  refine Qy [16, 19] (by kernel_rfl) rfl ⟨.inl (QK rfl ?_), .inl (QK rfl ?_), trivial⟩
  ·
   refine zp (Xg rfl rfl rfl rfl (by simp [Qo]) s.nk.length rfl (by simp [Qo])) ?_
   change AN _ _ _ _ _ _ _ _
   refine Qy [17, 19] (by kernel_rfl) rfl ⟨.inr (.inl (QV rfl rfl rfl rfl (by simp [Qo]) s.nk.length rfl (by simp [Qo]) rfl rfl rfl rfl (Qbi (by simp [Qo])) rfl rfl rfl rfl ?_)), .inl (QK rfl ?_), trivial⟩
   ·
    change AN _ _ _ _ _ _ _ _
    refine Qy [19] (by kernel_rfl) rfl ⟨.inl (QK rfl ?_), trivial⟩
    refine zf ?_
    change AN _ _ _ _ _ _ _ _
    refine Qy [20] (by kernel_rfl) rfl ⟨.inr (.inl (Xz rfl rfl rfl rfl rfl (XS rfl (by simp [Qo])) rfl (Nat.le_of_ble_eq_true rfl) rfl rfl rfl rfl ?_)), trivial⟩
    change AN _ _ _ _ _ _ _ _
    refine Xq (by kernel_rfl) ?_
    exact Qa rfl (Xv trivial) ⟨(by first | (rw [XC k2]; rfl) | (rw [Xf k2, List.length_append]; rfl)), rfl, rfl, (by first | (rw [XC k2]; rfl) | (rw [Xf k2]; exact congrArg some (congrArg (Qx.arr _ 4) Yd))), rfl, (QO _), trivial⟩
   refine zf ?_
   change AN _ _ _ _ _ _ _ _
   refine Qy [17, 20] (by kernel_rfl) rfl ⟨.inr (.inl (QV rfl rfl rfl rfl (by simp [Qo]) s.nk.length rfl (by simp [Qo]) rfl rfl rfl rfl (Qbi (by simp [Qo])) rfl rfl rfl rfl ?_)), .inr (.inl (Xz rfl rfl rfl rfl rfl (XS rfl (by simp [Qo])) rfl (Nat.le_of_ble_eq_true rfl) rfl rfl rfl rfl ?_)), trivial⟩
   ·
    change AN _ _ _ _ _ _ _ _
    refine Qy [20] (by kernel_rfl) rfl ⟨.inr (.inl (Xz rfl rfl rfl rfl rfl (XS rfl (by simp [Qo])) rfl (Nat.le_of_ble_eq_true rfl) rfl rfl rfl rfl ?_)), trivial⟩
    change AN _ _ _ _ _ _ _ _
    refine Xq (by kernel_rfl) ?_
    exact Qa rfl (Xv trivial) ⟨(by first | (rw [XC k2]; rfl) | (rw [Xf k2, List.length_append]; rfl)), rfl, rfl, (by first | (rw [XC k2]; rfl) | (rw [Xf k2]; exact congrArg some (congrArg (Qx.arr _ 4) Yd))), rfl, (QO _), trivial⟩
   change AN _ _ _ _ _ _ _ _
   refine Qy [17] (by kernel_rfl) rfl ⟨.inr (.inl (QV rfl rfl rfl rfl (by simp [Qo]) s.nk.length rfl (by simp [Qo]) rfl rfl rfl rfl (Qbi (by simp [Qo])) rfl rfl rfl rfl ?_)), trivial⟩
   change AN _ _ _ _ _ _ _ _
   refine Xq (by kernel_rfl) ?_
   exact Qa rfl (Xv trivial) ⟨(by first | (rw [XC k2]; rfl) | (rw [Xf k2, List.length_append]; rfl)), rfl, rfl, (by first | (rw [XC k2]; rfl) | (rw [Xf k2]; exact congrArg some (congrArg (Qx.arr _ 4) Yd))), rfl, (QO _), trivial⟩
  refine zf ?_
  change AN _ _ _ _ _ _ _ _
  refine Qy [16, 20] (by kernel_rfl) rfl ⟨.inl (QK rfl ?_), .inr (.inl (Xz rfl rfl rfl rfl rfl (XS rfl (by simp [Qo])) rfl (Nat.le_of_ble_eq_true rfl) rfl rfl rfl rfl ?_)), trivial⟩
  ·
   refine zp (Xg rfl rfl rfl rfl (by simp [Qo]) s.nk.length rfl (by simp [Qo])) ?_
   change AN _ _ _ _ _ _ _ _
   refine Qy [17, 20] (by kernel_rfl) rfl ⟨.inr (.inl (QV rfl rfl rfl rfl (by simp [Qo]) s.nk.length rfl (by simp [Qo]) rfl rfl rfl rfl (Qbi (by simp [Qo])) rfl rfl rfl rfl ?_)), .inr (.inl (Xz rfl rfl rfl rfl rfl (XS rfl (by simp [Qo])) rfl (Nat.le_of_ble_eq_true rfl) rfl rfl rfl rfl ?_)), trivial⟩
   ·
    change AN _ _ _ _ _ _ _ _
    refine Qy [20] (by kernel_rfl) rfl ⟨.inr (.inl (Xz rfl rfl rfl rfl rfl (XS rfl (by simp [Qo])) rfl (Nat.le_of_ble_eq_true rfl) rfl rfl rfl rfl ?_)), trivial⟩
    change AN _ _ _ _ _ _ _ _
    refine Xq (by kernel_rfl) ?_
    exact Qa rfl (Xv trivial) ⟨(by first | (rw [XC k2]; rfl) | (rw [Xf k2, List.length_append]; rfl)), rfl, rfl, (by first | (rw [XC k2]; rfl) | (rw [Xf k2]; exact congrArg some (congrArg (Qx.arr _ 4) Yd))), rfl, (QO _), trivial⟩
   change AN _ _ _ _ _ _ _ _
   refine Qy [17] (by kernel_rfl) rfl ⟨.inr (.inl (QV rfl rfl rfl rfl (by simp [Qo]) s.nk.length rfl (by simp [Qo]) rfl rfl rfl rfl (Qbi (by simp [Qo])) rfl rfl rfl rfl ?_)), trivial⟩
   change AN _ _ _ _ _ _ _ _
   refine Xq (by kernel_rfl) ?_
   exact Qa rfl (Xv trivial) ⟨(by first | (rw [XC k2]; rfl) | (rw [Xf k2, List.length_append]; rfl)), rfl, rfl, (by first | (rw [XC k2]; rfl) | (rw [Xf k2]; exact congrArg some (congrArg (Qx.arr _ 4) Yd))), rfl, (QO _), trivial⟩
  change AN _ _ _ _ _ _ _ _
  refine Qy [16] (by kernel_rfl) rfl ⟨.inl (QK rfl ?_), trivial⟩
  refine zp (Xg rfl rfl rfl rfl (by simp [Qo]) s.nk.length rfl (by simp [Qo])) ?_
  change AN _ _ _ _ _ _ _ _
  refine Qy [17] (by kernel_rfl) rfl ⟨.inr (.inl (QV rfl rfl rfl rfl (by simp [Qo]) s.nk.length rfl (by simp [Qo]) rfl rfl rfl rfl (Qbi (by simp [Qo])) rfl rfl rfl rfl ?_)), trivial⟩
  change AN _ _ _ _ _ _ _ _
  refine Xq (by kernel_rfl) ?_
  exact Qa rfl (Xv trivial) ⟨(by first | (rw [XC k2]; rfl) | (rw [Xf k2, List.length_append]; rfl)), rfl, rfl, (by first | (rw [XC k2]; rfl) | (rw [Xf k2]; exact congrArg some (congrArg (Qx.arr _ 4) Yd))), rfl, (QO _), trivial⟩
 refine Qu ?_
 rw [QmB h8 h10]
 refine Qd 8 (by kernel_rfl) (by kernel_rfl) ?_; refine zm ?_; refine zp (Qe rfl rfl rfl) ?_; refine Qs ?_; refine zp (Qe rfl rfl rfl) ?_
 refine Qu ?_; change Qj _ _ _ _ _ _; refine zP (QC (b := false) rfl rfl rfl (by simpa using h8)) ?_; refine Qs ?_
 refine Qd 14 (by kernel_rfl) (by kernel_rfl) ?_; refine zm ?_; refine zp (Qe rfl rfl rfl) ?_; refine Qs ?_; refine zp (Qe rfl rfl rfl) ?_
 refine Qu ?_; refine zp ((X9 rfl rfl rfl (by rw [List.length_map]))) ?_
 refine zp (QZ rfl rfl rfl (by first | omega | (dsimp only; omega))) ?_
 refine zm ?_; refine zp (Qe rfl rfl rfl) ?_; refine Qu ?_; change Qj _ _ _ _ _ _
 refine zP (QC (b := true) rfl rfl rfl (by simpa using h10)) ?_; refine Qv ?_
 refine Qmx hN [(QB, QB), (QB + 1, (QB + 1))] (Qrd l (KF s b) hnum hc he hn hn2 sv hs) (.fn _ _ _ _ rfl rfl) rfl rfl rfl ⟨rfl, rfl, rfl, Qby (Xe _) rfl, rfl, Qdy (Xe _), trivial⟩ rfl ⟨rfl, Qde (Xe _), trivial⟩ rfl (QbG (Xe _) rfl) rfl rfl rfl rfl rfl rfl ?_
 refine QF ?_; refine Qh ?_
 change (Xa _ _).ntt = _ ∧ _
 refine Jq rfl ?_ rfl rfl rfl ⟨rfl, rfl, rfl, rfl, rfl, QO _, trivial⟩
 rfl
theorem Qpb (l : QD) (id n q : Int) (v : Qw) (h0 : 0 ≤ id) (h1 : 1 ≤ n) (h2 : n ≤ 12) (h3 : 1 ≤ q) (h4 : q ≤ n) (hv : XZ l v = true) (hc : Xp l = 0) (he : Qt v l = true) (sv : J6 100000 v) : FN Tryz.prog 17 [.agg (Q2 l), i64 id, i64 n, i64 q, .agg (Qz v)] 118 (prC l (Qdm id n q v) (.p (.slice none 0 0))) (i64 0) := by
 refine QeF 10 11 Tryz.func17 rfl rfl 47 Tryz.ntmps17 (Nat.le_of_ble_eq_true rfl) ?_
 intro E hN
 refine Jv ?_
 refine zP (QC (b := false) rfl rfl rfl (by simp; omega)) ?_
 refine Qu ?_
 refine zP (QC (b := false) rfl rfl rfl (by simp; omega)) ?_
 refine Qs ?_
 refine zP (QC (b := false) rfl rfl rfl (by simp; omega)) ?_
 refine Qs ?_
 refine zP (QC (b := false) rfl rfl rfl (by simp; omega)) ?_
 refine Qv ?_
 refine zP (QC (b := false) rfl rfl rfl (by simp; omega)) ?_
 refine Qv ?_; refine zP (Qc (fcb (c := true) (KV l v) hv) rfl rfl rfl) ?_; refine Q8 ?_
 refine Qd 9 (by kernel_rfl) (by kernel_rfl) ?_; refine Q4 ?_; refine zp (Qc (Qed l v hc he sv) rfl rfl rfl) ?_
 refine zp (JS rfl rfl rfl) ?_; change Qj _ _ _ _ _ _; refine Qv ?_; refine Qh ?_
 exact ⟨2, _, _, rfl, rfl, rfl, rfl, rfl⟩
theorem Qop (l : QD) (id n q : Int) (v : Qw) (hbad : id < 0 ∨ n < 1 ∨ 12 < n ∨ q < 1 ∨ n < q ∨ XZ l v = false) : FC Tryz.prog 17 [.agg (Q2 l), i64 id, i64 n, i64 q, .agg (Qz v)] (.tup [.p (.pointer none), i64 1]) := by
 refine Qg [10, 11] Tryz.func17 rfl rfl 47 Tryz.ntmps17 (Nat.le_of_ble_eq_true rfl) ?_
 intro E hN
 refine YR ?_
 refine zc 14 ?_ ?_ <;> intro h8
 ·
  refine QaA ?_; refine Qv ?_; refine zQ ?_
  rfl
 refine Qv ?_
 refine zc 18 ?_ ?_ <;> intro h9
 ·
  refine QaA ?_; refine zQ ?_
  rfl
 refine Qv ?_
 refine zc 22 ?_ ?_ <;> intro h10
 ·
  refine Qlr ?_; refine zQ ?_
  rfl
 refine Qv ?_
 refine zc 26 ?_ ?_ <;> intro h11
 ·
  refine Qcb ?_; refine zQ ?_
  rfl
 refine QF ?_
 refine zc 31 ?_ ?_ <;> intro h12
 ·
  refine Jv ?_; refine zQ ?_
  rfl
 refine Qu ?_; refine uP (Xj h12) (Qc (KV l v) rfl rfl rfl) ?_; refine Qs ?_
 refine zq ?_ ?_ <;> intro h15
 ·
  refine Qv ?_; refine zQ ?_
  rfl
 exfalso
 rcases hbad with hbad | hbad | hbad | hbad | hbad | hbad <;> first | (simp_all; done) | (simp_all; omega)
abbrev rrC (l : QD) (r : Rr) (x : AV) : List AV := [i64 l.k, i64 l.lo, i64 l.hi, X1 l.nm, Qgi l.ps, rus l.rs, i64 r.id, i64 r.q, i64 r.v.N, X1 r.v.nm, Qad r.v.ps, W7 r.v.es, i64 r.more.N, X1 r.more.nm, Qad r.more.ps, W7 r.more.es, i64 r.num, x, bl r.dec]
abbrev rrH (l : QD) (r : Rr) : List (Nat × Qx) := [(QB, .var 48 (rrC l r (.own (QB + 1) r.reps.length))), (QB + 1, .arr 3 1 (r.reps.map iv1))]
theorem Qjb (l : List Int) : ∀ e ∈ l.map iv1, e.length = 1 := fun e he => by
 obtain ⟨v, -, rfl⟩ := List.mem_map.1 he
 rfl
theorem QJ {L : Nat} {te : TypeId} (l : List Int) : Yj L (.arr te 1 (l.map iv1)) = true := QT (f := iv1) (fun _ => rfl) l
theorem Jm (l : List Int) : ∀ e ∈ l.map iv1, fzs e = some e := Qih (fun _ => rfl) l
theorem Qee {l : List Int} {j : Nat} {x : Int} : (l.map iv1).set j (iv1 x) = (l.set j x).map iv1 := List.map_set.symm
def QsP (r : Rr) : Qw := if r.dec then r.v else Qw.zero
def KD (r : Rr) (k : Nat) : List JR := ((List.range k).filter fun i => !r.dec && r.reps.getD i 0 == 0).map fun i : Nat => (⟨1, r.id, (i : Int), r.num, r.v⟩ : JR)
theorem Qii {r : Rr} {k : Nat} (h : (!r.dec && r.reps.getD k 0 == 0) = true) : KD r (k + 1) = KD r k ++ [⟨1, r.id, (k : Int), r.num, r.v⟩] := by
 unfold KD
 rw [List.range_succ, List.filter_append, List.map_append]
 simp only [List.filter_cons, h, List.filter_nil, if_true, List.map_cons, List.map_nil]
theorem QmJ {r : Rr} {k : Nat} (h : (!r.dec && r.reps.getD k 0 == 0) = false) : KD r (k + 1) = KD r k := by
 unfold KD
 rw [List.range_succ, List.filter_append, List.map_append]
 simp only [List.filter_cons, h, List.filter_nil]
 simp
theorem Qs6 (r : Rr) (k : Nat) : (KD r k).length ≤ k := by
 unfold KD
 rw [List.length_map]
 have := List.length_filter_le (fun i => !r.dec && r.reps.getD i 0 == 0) (List.range k)
 rwa [List.length_range] at this
theorem Qp4 {r : Rr} {k : Nat} (hk : k ≤ r.reps.length) (h : r.reps.length ≤ k ∨ r.dec = true) : KD r k = Qkn r := by
 rcases h with h | h
 ·obtain rfl : k = r.reps.length := by omega
  rfl
 have e : ∀ m : List Nat, m.filter (fun i => !r.dec && r.reps.getD i 0 == 0) = [] := fun m => List.filter_eq_nil_iff.2 (by simp [h])
 unfold KD Qkn
 rw [e, e]
theorem Xr {p : Int → Bool} {l : List Int} {k : Nat} {x : Int} (h : l[k]? = some x) : (l.take (k + 1)).countP p = (l.take k).countP p + if p x then 1 else 0 := by
 obtain ⟨hk, rfl⟩ := List.getElem?_eq_some_iff.1 h
 rw [List.take_succ_eq_append_getElem hk, List.countP_append]
 simp [List.countP_cons]
theorem QaL {l : QD} {r : Rr} {b : JR} (h : b.k = 2) : Yc l r b = { r with reps := r.reps.set b.f.toNat b.k } := by
 unfold Yc; rw [if_neg (by omega)]
theorem WK {l : QD} {r : Rr} {b : JR} (h : b.k = 3) : Yc l r b = { r with reps := r.reps.set b.f.toNat b.k, more := QR l r.more b.v } := by
 unfold Yc; rw [if_pos h]
theorem QfP {l : QD} {r : Rr} {b : JR} (h : J2 l r b = 0) : (b.k = 2 ∨ b.k = 3) ∧ b.t = r.id ∧ 0 ≤ b.f ∧ b.f < r.reps.length ∧ 1 ≤ b.n ∧ (b.k = 2 → eqV b.v Qw.zero = true) ∧ (b.k = 3 → XZ l b.v = true) ∧ b.n = r.num ∧ r.dec = false ∧ r.reps.getD b.f.toNat 0 = 0 := by
 unfold J2 at h
 split at h
 ·cases h
 rename_i h1
 split at h
 ·cases h
 rename_i h2
 split at h
 ·cases h
 rename_i h3
 refine ⟨by omega, by omega, by omega, by omega, by omega, fun k2 => ?_, fun k3 => ?_, by omega, ?_, by omega⟩
 ·cases e : eqV b.v Qw.zero with
  | true => rfl
  | false => exact absurd (.inl ⟨k2, e⟩) h2
 ·cases e : XZ l b.v with
  | true => rfl
  | false => exact absurd (.inr ⟨k3, e⟩) h2
 cases e : r.dec with
 | false => rfl
 | true => exact absurd (.inr (.inl e)) h3
theorem Qqr (l : QD) (r : Rr) : GC Tryz.prog 20 [.ptr QB 0] (rrH l r) (.tup [.agg (Qz (QsP r)), bl r.dec]) (rrH l r) := by
 refine KK [.c 2 30 4 true, .t 3] ⟨⟨inferInstance, rfl⟩, trivial⟩ Tryz.func20 rfl rfl 14 Tryz.ntmps20 (Nat.le_of_ble_eq_true rfl) ?_
 intro E hN
 refine JA ?_; refine zP (Qe rfl rfl rfl) ?_; refine Qv ?_
 refine zq ?_ ?_ <;> intro h4
 ·
  have hd : r.dec = false := by simpa using h4
  refine Q8 ?_; refine Qh ?_
  change (resY _ _).bind AV.fzt = some _ ∧ _
  refine Qeh rfl ?_ rfl ?_ rfl rfl ?_ (QJ _)
  all_goals first | rfl | (rw [QsP, hd]; rfl)
 have hd : r.dec = true := by simpa using h4
 refine Qv ?_; refine zP (Qe rfl rfl rfl) ?_; refine QF ?_; refine Qh ?_
 change (resY _ _).bind AV.fzt = some _ ∧ _
 refine Qeh rfl ?_ rfl ?_ rfl rfl ?_ (QJ _)
 all_goals first | rfl | (rw [QsP, hd]; rfl)
theorem Qot (l : QD) (r : Rr) (h12 : r.reps.length ≤ 12) : GC Tryz.prog 26 [.ptr QB 0] (rrH l r) (bals (Qkn r)) (rrH l r) := by
 refine XL [2] Tryz.func26 rfl rfl 48 Tryz.ntmps26 (Nat.le_of_ble_eq_true rfl) ?_
 intro E hN
 refine Q8 ?_; refine Yw hN rfl rfl rfl rfl rfl rfl ?_; refine XN ?_
 refine Ql (fun x : {k : Nat // k ≤ r.reps.length} => ⟨[(0, .ptr QB 0), (3, .own 0 (KD r x.1).length), (4, i64 (x.1 : Nat))], [(QB, .var 48 (rrC l r (.own (QB + 1) r.reps.length))), (QB + 1, .arr 3 1 (r.reps.map iv1)), (0, .arr 54 8 ((KD r x.1).map fun b => Jx b))], 1⟩) (fun x => r.reps.length - x.1) (⟨0, Nat.zero_le _⟩) ?_ ?_
 ·
  exact Qa rfl (JO trivial) ⟨rfl, rfl, rfl, rfl, rfl, (QJ _), rfl, rfl, (QT (f := fun b => Jx b) (fun _ => rfl) _), trivial⟩
 rintro ⟨k, hk⟩
 dsimp only
 refine QF ?_; refine zP (Qe rfl rfl rfl) ?_; refine Qu ?_; refine zP ((X9 rfl rfl rfl (by rw [List.length_map]))) ?_; refine Qu ?_
 refine zc 13 ?_ ?_ <;> intro h9
 rotate_left
 ·
  have hx3 : r.reps.length ≤ k ∨ r.dec = true := .inl (by simpa using h9)
  refine XB ?_
  have hx3 : r.reps.length ≤ k ∨ r.dec = true := by first | assumption | (left; simp_all; done) | (right; simp_all; done)
  refine QI (Ju 3 0 rfl rfl (by rw [List.length_map]) (QiU (fun _ => rfl) _) (Qih (fun _ => rfl) _) rfl) ?_; refine Qv ?_
  refine Qh ?_
  change (Xa _ _).fzt = some _ ∧ _
  refine YJ rfl ?_ rfl ?_ rfl rfl ?_ (QJ _)
  ·rw [Qp4 hk hx3]
  ·rfl
  rfl
 have hlt : k < r.reps.length := by simpa using h9
 obtain ⟨y, hx⟩ := Qn hlt
 have hD : r.reps.getD k 0 = y := by simp [List.getD, hx]
 refine Jk ?_; refine uP (XG h9) (Qe rfl rfl rfl) ?_; refine QF ?_
 refine zq ?_ ?_ <;> intro h11
 rotate_left
 ·
  have hx3 : r.reps.length ≤ k ∨ r.dec = true := .inr (by simpa using h11)
  refine Qu ?_
  have hx3 : r.reps.length ≤ k ∨ r.dec = true := by first | assumption | (left; simp_all; done) | (right; simp_all; done)
  refine QI (Ju 3 0 rfl rfl (by rw [List.length_map]) (QiU (fun _ => rfl) _) (Qih (fun _ => rfl) _) rfl) ?_; refine Qv ?_
  refine Qh ?_
  change (Xa _ _).fzt = some _ ∧ _
  refine YJ rfl ?_ rfl ?_ rfl rfl ?_ (QJ _)
  ·rw [Qp4 hk hx3]
  ·rfl
  rfl
 have hlt : k < r.reps.length := by simp_all
 obtain ⟨y, hx⟩ := Qn hlt
 have hD : r.reps.getD k 0 = y := by simp [List.getD, hx]
 have hd : r.dec = false := by simpa using h11
 refine Q8 ?_; refine zP (Qe rfl rfl rfl) ?_; refine Qs ?_; refine zP (Xg rfl rfl rfl rfl (by rw [List.length_map]) k rfl hlt) ?_
 refine zP (JD rfl rfl r.reps rfl rfl k rfl hx) ?_; refine Qu ?_
 refine zq ?_ ?_ <;> intro h16
 rotate_left
 ·
  have hy : (!r.dec && r.reps.getD k 0 == 0) = false := by simp_all
  refine QF ?_; refine Qb ?_
  exact ⟨⟨k + 1, hlt⟩, Qa rfl (Xv ⟨(by first | (rw [Qii hy, List.length_append]; rfl) | (rw [QmJ hy]; rfl)), rfl, (Q0 (by dsimp only; omega)), rfl, trivial⟩) ⟨rfl, rfl, rfl, rfl, rfl, (QJ _), (by first | (rw [Qii hy, List.map_append]; rfl) | (rw [QmJ hy]; rfl)), rfl, (QT (f := fun b => Jx b) (fun _ => rfl) _), trivial⟩, by dsimp only; omega⟩
 have hy : (!r.dec && r.reps.getD k 0 == 0) = true := by simp_all
 refine Qd 16 (by kernel_rfl) (by kernel_rfl) ?_; refine Qu ?_; refine zp (Qe rfl rfl rfl) ?_; refine Qv ?_
 refine zp (Qe rfl rfl rfl) ?_; refine Qs ?_; refine zp (Qe rfl rfl rfl) ?_; refine Qu ?_; refine zp (JS rfl rfl rfl) ?_
 refine zp (QE rfl rfl rfl rfl (by exact rfl) (by decide) (by decide)) ?_; change Qj _ _ _ _ _ _
 refine Xm hN rfl rfl rfl (by rw [List.length_map]) rfl rfl (by rfl) (by rw [List.length_map]; have := Qs6 r k; refine ⟨?_, ?_⟩ <;> simp [Qo] <;> omega) rfl rfl rfl rfl ?_
 refine Q8 ?_; refine Qb ?_
 exact ⟨⟨k + 1, hlt⟩, Qa rfl (Xv ⟨(by first | (rw [Qii hy, List.length_append]; rfl) | (rw [QmJ hy]; rfl)), rfl, (Q0 (by dsimp only; omega)), rfl, trivial⟩) ⟨rfl, rfl, rfl, rfl, rfl, (QJ _), (by first | (rw [Qii hy, List.map_append]; rfl) | (rw [QmJ hy]; rfl)), rfl, (QT (f := fun b => Jx b) (fun _ => rfl) _), trivial⟩, by dsimp only; omega⟩
theorem Qab (l : List JR) : FC Tryz.prog 24 [bals l, bals l] (bl true) := by
 refine Qg [4] Tryz.func24 rfl rfl 27 Tryz.ntmps24 (Nat.le_of_ble_eq_true rfl) ?_
 intro E hN
 refine Jj 0 rfl (fun hl0 => ?_)
 refine Jv ?_; refine zP (QC (b := false) rfl rfl rfl (by simp)) ?_; refine JA ?_
 refine Ql (fun x : {k : Nat // k ≤ (l).length ∧ True} => ⟨[(0, bals l), (1, bals l), (5, i64 (x.1 : Nat))], [], 0⟩) (fun x => (l).length - x.1) (⟨0, Nat.zero_le _, by simp⟩) ?_ ?_
 ·
  exact Qa rfl (JO trivial) trivial
 rintro ⟨k, hk, hg⟩
 dsimp only
 refine XN ?_
 refine zq ?_ ?_ <;> intro h9
 rotate_left
 ·
  have hge : (l).length ≤ k := by simpa using h9
  refine Qv ?_; refine zQ ?_
  rfl
 have hlt : k < (l).length := by simpa using h9
 obtain ⟨x, hx⟩ := Qn hlt
 refine Qv ?_; refine Qd 9 (by kernel_rfl) (by kernel_rfl) ?_; refine Qu ?_; refine zp (Qf rfl rfl rfl k rfl _ (Wa hx) rfl) ?_
 refine Qs ?_; refine zp (Qf rfl rfl rfl k rfl _ (Wa hx) rfl) ?_; refine zl ?_
 refine zp (Qc (fcb (c := true) (QjE x x) (Qi9 x)) rfl rfl rfl) ?_; change Qj _ _ _ _ _ _; refine XN ?_; refine Qb ?_
 exact ⟨⟨k + 1, hlt, trivial⟩, Qa rfl (JI ⟨(Q0 (by dsimp only; omega)), rfl, trivial⟩) trivial, by dsimp only; omega⟩
end Go.Proofs.YtnkkokmmeplbgaaGreat
