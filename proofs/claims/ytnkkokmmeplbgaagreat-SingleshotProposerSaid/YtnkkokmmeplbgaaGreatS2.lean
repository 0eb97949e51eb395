/-
  Contracts of the reference: the acceptor; ballots.
-/
import Derived.Test.YtnkkokmmeplbgaaGreatC10
import Derived.Test.YtnkkokmmeplbgaaGreatB23
import Derived.Test.YtnkkokmmeplbgaaGreatA8
namespace Go.Proofs.YtnkkokmmeplbgaaGreat
set_option maxRecDepth 100000
set_option maxHeartbeats 1000000
open Go.RowKit
structure JR where
 k : Int
 f : Int
 t : Int
 n : Int
 v : Qw
abbrev Jx (b : JR) : List AV := [i64 b.k, i64 b.f, i64 b.t, i64 b.n, i64 b.v.N, X1 b.v.nm, Qad b.v.ps, W7 b.v.es]
abbrev bals (l : List JR) : AV := .sl (l.map fun b => Jx b) none
def JR.zero : JR := ⟨0, 0, 0, 0, Qw.zero⟩
abbrev Qbt (l : QD) (id : Int) (v : Qw) : List AV := [i64 l.k, i64 l.lo, i64 l.hi, X1 l.nm, Qgi l.ps, rus l.rs, i64 id, i64 v.N, X1 v.nm, Qad v.ps, W7 v.es]
def Qdp (l : QD) (id : Int) (b : JR) : Bool := !(b.k == 1) || !(b.t == id) || decide (b.f < 0) || decide (b.n < 1) || !XZ l b.v
def Qdh (l : QD) (id : Int) (v : Qw) (b : JR) : Qw × JR × Int :=
 if Qdp l id b then (v, JR.zero, 1) else if Qef l v b.v then (QR l v b.v, ⟨2, id, b.f, b.n, Qw.zero⟩, 0) else (QR l v b.v, ⟨3, id, b.f, b.n, QR l v b.v⟩, 0)
theorem Qqq {l : QD} {id : Int} {b : JR} (h : Qdp l id b = false) : Qt b.v l = true := by
 unfold Qdp XZ at h
 simp at h
 exact h.2.2
theorem Qeg (l : QD) (a b : Qw) (hc : Xp l = 0) (ha : Qt a l = true) (hb : Qt b l = true) (sa : J6 1000 a) (sb : J6 1000 b) : FC Tryz.prog 63 [.agg (Q2 l), .agg (Qz a), .agg (Qz b)] (.agg (Qz (QR l a b))) := by
 have cJ : FC Tryz.prog 110 [.agg (Q2 l), .agg (Qz a), .agg (Qz b)] (.tup [.agg (Qz (QR l a b)), i64 0]) := by
  have h := QmI l a b (fun _ => Qrx (X0 hc) (by simp [ha, hb, sa, sb]) (by simp))
  rw [Qfj (QeO hc (by simp [ha, hb])) (QjJ (X0 hc) ha)] at h
  exact h
 refine Jf [.c 6 30 4 true] ⟨⟨inferInstance, rfl⟩, trivial⟩ Tryz.func63 rfl rfl 17 Tryz.ntmps63 (Nat.le_of_ble_eq_true rfl) ?_
 intro E hN
 refine X6 ?_; refine zP (Qc cJ rfl rfl rfl) ?_; refine X6 ?_; refine Qh ?_
 change (resY _ _).bind AV.fzt = some _
 refine XD rfl ?_
 rfl
theorem Qrl (l : QD) (id : Int) (hc : Xp l = 0) (h0 : 0 ≤ id) (h1 : id < 12) : FN Tryz.prog 59 [.agg (Q2 l), i64 id] 151 (Qbt l id (KE l).1) (i64 0) := by
 refine QeF 4 5 Tryz.func59 rfl rfl 29 Tryz.ntmps59 (Nat.le_of_ble_eq_true rfl) ?_
 intro E hN
 refine XB ?_; refine zP (Qc (Qd5 l) rfl rfl rfl) ?_; refine Qu ?_
 refine zc 11 ?_ ?_ <;> intro h6
 ·
  refine Ki ?_; refine Qh ?_
  exfalso
  first | (simp_all; done) | (simp_all; omega)
 refine Qv ?_
 refine zc 15 ?_ ?_ <;> intro h7
 ·
  refine XB ?_; refine Qh ?_
  exfalso
  first | (simp_all; done) | (simp_all; omega)
 refine Qv ?_
 refine zq ?_ ?_ <;> intro h8
 ·
  refine QF ?_; refine Qh ?_
  exfalso
  first | (simp_all; done) | (simp_all; omega)
 refine Qv ?_; refine zP (Qc (Qhv l) rfl rfl rfl) ?_; refine QeT ?_; refine Qh ?_
 exact ⟨2, _, _, rfl, rfl, rfl, rfl, rfl⟩
theorem QnT (l : QD) (id : Int) (v : Qw) (hc : Xp l = 0) (hv : Qt v l = true) (sv : J6 1000 v) : GC Tryz.prog 108 [.ptr QB 0] [(QB, .var 151 (Qbt l id v))] (.agg (Qz v)) [(QB, .var 151 (Qbt l id v))] := by
 refine KK [.c 2 30 4 true] ⟨⟨inferInstance, rfl⟩, trivial⟩ Tryz.func108 rfl rfl 16 Tryz.ntmps108 (Nat.le_of_ble_eq_true rfl) ?_
 intro E hN
 refine QF ?_; refine Qd 13 (by kernel_rfl) (by kernel_rfl) ?_; refine zm ?_; refine zp (Qe rfl rfl rfl) ?_; refine Qs ?_
 refine zp (Qe rfl rfl rfl) ?_; refine Qs ?_; refine zp (Qe rfl rfl rfl) ?_; refine Qu ?_
 refine zp (Qc (Qeg l v v hc hv hv sv sv) rfl rfl rfl) ?_; change Qj _ _ _ _ _ _; refine Qu ?_; refine Qh ?_
 change (resY _ _).bind AV.fzt = some _ ∧ _
 refine WG rfl ?_ rfl ?_ rfl
 ·rw [Qhw (X0 hc) hv]
 rfl
theorem Qcx (l : QD) (id : Int) (v : Qw) (b : JR) (hc : Xp l = 0) (hv : Qt v l = true) (sv : J6 900 v) (sb : J6 40 b.v) : GC Tryz.prog 61 [.ptr QB 0, .agg (Jx b)] [(QB, .var 151 (Qbt l id v))] (.tup [.agg (Jx (Qdh l id v b).2.1), i64 (Qdh l id v b).2.2]) [(QB, .var 151 (Qbt l id (Qdh l id v b).1))] := by
 refine KK [.c 4 54 8 true, .t 5] ⟨⟨inferInstance, rfl⟩, trivial⟩ Tryz.func61 rfl rfl 82 Tryz.ntmps61 (Nat.le_of_ble_eq_true rfl) ?_
 intro E hN
 refine XN ?_; refine Qd 31 (by kernel_rfl) (by kernel_rfl) ?_; refine Qv ?_
 refine zd 11 ?_ ?_ <;> intro h7
 ·
  refine QaA ?_; refine Qs ?_; change Qj _ _ _ _ _ _; refine JA ?_; refine Qh ?_
  change (resY _ _).bind AV.fzt = some _ ∧ _
  refine WG rfl ?_ rfl ?_ rfl
  all_goals rw [Qdh, if_pos (show Qdp l id b = true by simp_all [Qdp])]
  all_goals rfl
 refine Qs ?_; refine vP (Xj h7) (Qe rfl rfl rfl) ?_; refine QF ?_
 refine zd 20 ?_ ?_ <;> intro h14
 ·
  refine QeU ?_; change Qj _ _ _ _ _ _; refine JA ?_; refine Qh ?_
  change (resY _ _).bind AV.fzt = some _ ∧ _
  refine WG rfl ?_ rfl ?_ rfl
  all_goals rw [Qdh, if_pos (show Qdp l id b = true by simp_all [Qdp])]
  all_goals rfl
 refine QF ?_
 refine zd 25 ?_ ?_ <;> intro h19
 ·
  refine YR ?_; change Qj _ _ _ _ _ _; refine JA ?_; refine Qh ?_
  change (resY _ _).bind AV.fzt = some _ ∧ _
  refine WG rfl ?_ rfl ?_ rfl
  all_goals rw [Qdh, if_pos (show Qdp l id b = true by simp_all [Qdp])]
  all_goals rfl
 refine QF ?_
 refine zd 30 ?_ ?_ <;> intro h24
 ·
  refine XN ?_; change Qj _ _ _ _ _ _; refine JA ?_; refine Qh ?_
  change (resY _ _).bind AV.fzt = some _ ∧ _
  refine WG rfl ?_ rfl ?_ rfl
  all_goals rw [Qdh, if_pos (show Qdp l id b = true by simp_all [Qdp])]
  all_goals rfl
 refine Jk ?_; refine vP (Xj h24) (Qe rfl rfl rfl) ?_; refine Qv ?_; refine vP (Xj h24) (Qc (KV l b.v) rfl rfl rfl) ?_; refine Jk ?_
 change Qj _ _ _ _ _ _; refine Qu ?_
 refine zq ?_ ?_ <;> intro h31
 ·
  refine Q8 ?_; refine Qh ?_
  change (resY _ _).bind AV.fzt = some _ ∧ _
  refine WG rfl ?_ rfl ?_ rfl
  all_goals rw [Qdh, if_pos (show Qdp l id b = true by simp_all [Qdp])]
  all_goals rfl
 have hbad : Qdp l id b = false := by simp_all [Qdp] <;> omega
 have hbe := Qqq hbad
 have L := K7 l (X0 hc) v b.v hv hbe
 have hsm := (Qd3 (by decide) l (X0 hc) v b.v hv hbe sv sb).up (show 900 + 40 ≤ 1000 by decide)
 refine Qu ?_; refine QlM [([0, 1, 2, 3, 4, 5, 6, 7, 8], 9)] [10] (by kernel_rfl) (by kernel_rfl) rfl ?_
 refine ⟨_, rfl, ?_⟩
 refine zm ?_; refine zp (Qe rfl rfl rfl) ?_; refine Q8 ?_; refine zp (JS rfl rfl rfl) ?_
 change FK _ _ _ _ _ _
 refine Qmi hN rfl rfl rfl rfl rfl rfl rfl ?_; change Qj _ _ _ _ _ _; refine Qs ?_; refine Qd 11 (by kernel_rfl) (by kernel_rfl) ?_
 refine zm ?_; refine zp (Qe rfl rfl rfl) ?_; refine Qs ?_; refine zp (Qe rfl rfl rfl) ?_; refine Qv ?_
 refine zp (Qc (QqF l v b.v) rfl rfl rfl) ?_; change Qj _ _ _ _ _ _; refine Qs ?_; refine Qd 14 (by kernel_rfl) (by kernel_rfl) ?_
 refine Qu ?_; refine zp (Qe rfl rfl rfl) ?_; refine Qs ?_; refine zp (Qe rfl rfl rfl) ?_; refine Qv ?_
 refine zp (Qc (Qeg l v b.v hc hv hbe (sv.up (by decide)) (sb.up (by decide))) rfl rfl rfl) ?_; refine zp (Qe rfl rfl rfl) ?_; refine zf ?_
 change Qj _ _ _ _ _ _; refine XN ?_
 refine zq ?_ ?_ <;> intro h49
 ·
  have h6 : Qef l v b.v = false := by simpa using h49
  refine Qu ?_
  refine XO hN QB (QnT l id (QR l v b.v) hc L.el hsm) (.fn _ _ _ _ rfl rfl) rfl rfl rfl rfl rfl rfl rfl rfl rfl rfl rfl ?_
  refine Jv ?_; refine Qh ?_
  change (resY _ _).bind AV.fzt = some _ ∧ _
  refine WG rfl ?_ rfl ?_ rfl
  all_goals rw [Qdh, if_neg (by rw [hbad]; decide)]
  all_goals first | rw [if_pos h6] | rw [if_neg (by rw [h6]; decide)]
  all_goals rfl
 have h6 : Qef l v b.v = true := by simpa using h49
 refine Q4 ?_; refine Qh ?_
 change (resY _ _).bind AV.fzt = some _ ∧ _
 refine WG rfl ?_ rfl ?_ rfl
 all_goals rw [Qdh, if_neg (by rw [hbad]; decide)]
 all_goals first | rw [if_pos h6] | rw [if_neg (by rw [h6]; decide)]
 all_goals rfl
end Go.Proofs.YtnkkokmmeplbgaaGreat
namespace Go.Proofs.YtnkkokmmeplbgaaGreat
set_option maxRecDepth 100000
set_option maxHeartbeats 1000000
open Go.RowKit
theorem Wa {l : List JR} {k : Nat} {x : JR} (h : l[k]? = some x) : (l.map fun b => Jx b)[k]? = some (Jx x) := by rw [List.getElem?_map, h]; rfl
def QaM (x y : JR) : Bool := x.k == y.k && x.f == y.f && x.t == y.t && x.n == y.n && eqV x.v y.v
theorem Qi9 (x : JR) : QaM x x = true := by unfold QaM; simp [(Yk x.v x.v).2 rfl]
def QcB (b : JR) : Bool := QbK b.v 40
def WH (l : List JR) (m : Int) : Bool := !decide ((l.length : Int) > m) && l.all QcB
theorem QlV {l : List JR} {m : Int} (h : WH l m = true) : (l.length : Int) ≤ m ∧ ∀ b ∈ l, J6 40 b.v := by
 unfold WH at h
 simp only [Bool.and_eq_true, Bool.not_eq_true', decide_eq_false_iff_not, List.all_eq_true] at h
 exact ⟨by omega, fun b hb => YB (h.2 b hb)⟩
theorem QjE (x y : JR) : FC Tryz.prog 67 [.agg (Jx x), .agg (Jx y)] (bl (QaM x y)) := by
 refine Qg [4] Tryz.func67 rfl rfl 38 Tryz.ntmps67 (Nat.le_of_ble_eq_true rfl) ?_
 intro E hN
 refine Ki ?_
 refine zc 10 ?_ ?_ <;> intro h9
 rotate_left
 ·
  refine QaA ?_; refine Qv ?_; refine zQ ?_
  exact Qm (by simp_all [QaM])
 refine Q4 ?_
 refine zc 17 ?_ ?_ <;> intro h14
 rotate_left
 ·
  refine Qpc ?_; refine zQ ?_
  exact Qm (by simp_all [QaM])
 refine Q4 ?_
 refine zc 24 ?_ ?_ <;> intro h19
 rotate_left
 ·
  refine Ki ?_; refine zQ ?_
  exact Qm (by simp_all [QaM])
 refine Q4 ?_
 refine zc 31 ?_ ?_ <;> intro h24
 ·
  refine Qv ?_; refine uP (XG h24) (Qc (Je x.v y.v) rfl rfl rfl) ?_; refine Qu ?_; refine zQ ?_
  exact Qm (by simp_all [QaM])
 refine Q4 ?_; refine zQ ?_
 exact Qm (by simp_all [QaM])
theorem Qci (l : List JR) (m : Int) : FC Tryz.prog 14 [bals l, i64 m] (bl (WH l m)) := by
 refine Qg [4] Tryz.func14 rfl rfl 23 Tryz.ntmps14 (Nat.le_of_ble_eq_true rfl) ?_
 intro E hN
 refine Jj 0 rfl (fun hl0 => ?_)
 refine X6 ?_
 refine zq ?_ ?_ <;> intro h4
 ·
  have h1 : (l.length : Int) > m := by simpa using h4
  refine Qs ?_; refine zQ ?_
  exact Qm (by rw [WH, decide_eq_true h1]; rfl)
 have h1 : ¬ (l.length : Int) > m := by simpa using h4
 refine Q4 ?_
 refine Ql (fun x : {k : Nat // k ≤ (l).length ∧ (l.drop k).all QcB = l.all QcB} => ⟨[(0, bals l), (5, i64 (x.1 : Nat))], [], 0⟩) (fun x => (l).length - x.1) (⟨0, Nat.zero_le _, by simp⟩) ?_ ?_
 ·
  exact Qa rfl (JI trivial) trivial
 rintro ⟨k, hk, hg⟩
 dsimp only
 refine XN ?_
 refine zq ?_ ?_ <;> intro h7
 rotate_left
 ·
  have hge : (l).length ≤ k := by simpa using h7
  refine Qv ?_; refine zQ ?_
  exact Qm (by rw [WH, XU hg hge, decide_eq_false h1]; rfl)
 have hlt : k < (l).length := by simpa using h7
 obtain ⟨x, hx⟩ := Qn hlt
 refine Q4 ?_; refine zP (Qf rfl rfl rfl k rfl _ (Wa hx) rfl) ?_; refine Qu ?_
 refine zP (Qc (QcR x.v 40 (by decide) (by decide)) rfl rfl rfl) ?_; refine Qu ?_
 refine zq ?_ ?_ <;> intro h11
 ·
  refine Qs ?_; refine zQ ?_
  exact Qm (by rw [WH, Q3 hg hx (by simp_all [QcB]), Bool.and_false])
 refine QF ?_; refine Qb ?_
 exact ⟨⟨k + 1, hlt, Xx hg hx (by simp_all [QcB])⟩, Qa rfl (Xv ⟨(Q0 (by dsimp only; omega)), rfl, trivial⟩) trivial, by dsimp only; omega⟩
theorem QkG (l : QD) (a b : Qw) (hc : Xp l = 0) (ha : Qt a l = true) (hb : Qt b l = true) {n m : Nat} (hnm : n + m ≤ 1000000) (sa : J6 n a) (sb : J6 m b) : FC Tryz.prog 70 [.agg (Q2 l), .agg (Qz a), .agg (Qz b)] (.agg (Qz (QR l a b))) := by
 have cJ : FC Tryz.prog 117 [.agg (Q2 l), .agg (Qz a), .agg (Qz b)] (.tup [.agg (Qz (QR l a b)), i64 0]) := by
  have h := QoO l hnm a b sa sb
  rw [show QhU l a b = (QR l a b, 0) by rw [QhU, if_pos (QeO hc (by simp [ha, hb]))]] at h
  exact h
 refine Jf [.c 6 30 4 true] ⟨⟨inferInstance, rfl⟩, trivial⟩ Tryz.func70 rfl rfl 17 Tryz.ntmps70 (Nat.le_of_ble_eq_true rfl) ?_
 intro E hN
 refine X6 ?_; refine zP (Qc cJ rfl rfl rfl) ?_; refine X6 ?_; refine Qh ?_
 change (resY _ _).bind AV.fzt = some _
 refine XD rfl ?_
 rfl
theorem Qcn (l : List Nm) : FC Tryz.prog 60 [X1 l] (.agg (Qz (.mk 0 l [] []))) := by
 refine Jf [.c 2 30 4 true] ⟨⟨inferInstance, rfl⟩, trivial⟩ Tryz.func60 rfl rfl 5 Tryz.ntmps60 (Nat.le_of_ble_eq_true rfl) ?_
 intro E hN
 refine XB ?_; refine Qh ?_
 change (resY _ _).bind AV.fzt = some _
 refine XD rfl ?_
 rfl
end Go.Proofs.YtnkkokmmeplbgaaGreat
