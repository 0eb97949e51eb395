/-
  Contracts: finite.products, when a part fails or there are t
-/
import Derived.Test.YtaecccdkjmipeaaGreatF15
import Derived.Test.YtaecccdkjmipeaaGreatA10
namespace Go.Proofs.YtaecccdkjmipeaaGreat
set_option maxRecDepth 100000
set_option maxHeartbeats 1000000
open Go.RowKit
theorem Qqj (lo hi : Int) (nm : List Nm) (a : Qs) (rs : List Ru) (hc : Q0 a = 0) (La : List Qn) (hA : GV 48 [.agg (QF a)] La 0 1) (hl6 : La.length ≤ 1000000) (h0 : 0 < nm.length) (h64 : nm.length ≤ 64) (hL : (La.filter fun x => !eqV x (QL a)).length ≤ 256) (h256 : ∀ i, i ≤ nm.length → (Q8 (nm.take i) (La.filter fun x => !eqV x (QL a))).length ≤ 256) : GV 48 [.agg (QF (.mk 5 lo hi nm [a] rs))] (Q8 nm (La.filter fun x => !eqV x (QL a))) 2 3 := by
 refine JC [2, 3] Tryz.func48 rfl rfl 91 Tryz.ntmps48 (Nat.le_of_ble_eq_true rfl) ?_
 intro E hN
 refine Yd ?_; refine Yd ?_; refine XJ ?_; refine Qu (J2 1 0 rfl rfl rfl rfl) ?_; refine QC ?_
 refine zP (Qh rfl rfl rfl 0 rfl _ (Xt (l := [a]) rfl) rfl) ?_; refine zL ?_
 refine YH hN [] hA (.fn _ _ _ _ rfl rfl) rfl rfl rfl trivial rfl ⟨WV (Qp _), trivial⟩ rfl (Hn := [(1, .arr 30 4 (La.map Xx))]) (YF (Qp _)) rfl rfl rfl rfl rfl rfl ?_
 refine Qe3 ?_; refine zP (Qec rfl rfl) ?_
 refine Qrc hN 1 (QnS La (fun y _ => Qoh (.mk 5 lo hi nm [a] rs) a rfl hc y) hl6) (.fn _ _ _ _ rfl rfl) rfl rfl (congrArg (QH.arr _ 4) (Qmr (Qp La))) rfl (Qli La) rfl rfl rfl rfl rfl rfl rfl rfl ?_
 refine Xz ?_
 refine YH hN [] (Qt8 nm (La.filter fun x => !eqV x (QL a)) h0 h64 hL h256) (.fn _ _ _ _ rfl rfl) rfl rfl rfl trivial rfl ⟨WV (Qp _), trivial⟩ rfl (Hn := [(2, .arr 30 4 ((Q8 nm (La.filter fun x => !eqV x (QL a))).map Xx))]) (YF (Qp _)) rfl rfl rfl rfl rfl rfl ?_
 refine QA ?_; refine QG ?_
 change (YK _ _).ntt = _ ∧ _
 refine WN rfl ?_ rfl rfl rfl ⟨rfl, rfl, Qw _, trivial⟩
 rfl
theorem Qnc (lo hi : Int) (nm : List Nm) (a : Qs) (rs : List Ru) (hA : FC Tryz.prog 48 [.agg (QF a)] (.tup [.sl [] none, bl false])) : FC Tryz.prog 48 [.agg (QF (.mk 5 lo hi nm [a] rs))] (.tup [.sl [] none, bl false]) := by
 refine Qd [2, 3] Tryz.func48 rfl rfl 91 Tryz.ntmps48 (Nat.le_of_ble_eq_true rfl) ?_
 intro E hN
 refine Yd ?_; refine Yd ?_; refine YJ ?_; refine zP (Qh rfl rfl rfl 0 rfl _ (Xt (l := [a]) rfl) rfl) ?_; refine zL ?_
 refine zP (Qc hA rfl rfl rfl) ?_; refine Qe3 ?_; refine zQ ?_
 rfl
theorem Qnv (lo hi : Int) (nm : List Nm) (a : Qs) (rs : List Ru) (hc : Q0 a = 0) (La : List Qn) (hA : GV 48 [.agg (QF a)] La 0 1) (hl6 : La.length ≤ 1000000) (i0 : Nat) (hi0 : i0 < nm.length) (h64 : nm.length ≤ 64) (hL : (La.filter fun x => !eqV x (QL a)).length ≤ 256) (h256 : ∀ i, i ≤ i0 → (Q8 (nm.take i) (La.filter fun x => !eqV x (QL a))).length ≤ 256) (hbig : 256 < (Q8 (nm.take (i0 + 1)) (La.filter fun x => !eqV x (QL a))).length) : FC Tryz.prog 48 [.agg (QF (.mk 5 lo hi nm [a] rs))] (.tup [.sl [] none, bl false]) := by
 refine Qd [2, 3] Tryz.func48 rfl rfl 91 Tryz.ntmps48 (Nat.le_of_ble_eq_true rfl) ?_
 intro E hN
 refine Yd ?_; refine Yd ?_; refine XJ ?_; refine Qu (J2 1 0 rfl rfl rfl rfl) ?_; refine QC ?_
 refine zP (Qh rfl rfl rfl 0 rfl _ (Xt (l := [a]) rfl) rfl) ?_; refine zL ?_
 refine YH hN [] hA (.fn _ _ _ _ rfl rfl) rfl rfl rfl trivial rfl ⟨WV (Qp _), trivial⟩ rfl (Hn := [(1, .arr 30 4 (La.map Xx))]) (YF (Qp _)) rfl rfl rfl rfl rfl rfl ?_
 refine Qe3 ?_; refine zP (Qec rfl rfl) ?_
 refine Qrc hN 1 (QnS La (fun y _ => Qoh (.mk 5 lo hi nm [a] rs) a rfl hc y) hl6) (.fn _ _ _ _ rfl rfl) rfl rfl (congrArg (QH.arr _ 4) (Qmr (Qp La))) rfl (Qli La) rfl rfl rfl rfl rfl rfl rfl rfl ?_
 refine Xz ?_; refine zP (Qc (QqJ nm (La.filter fun x => !eqV x (QL a)) i0 hi0 h64 hL h256 hbig) rfl rfl rfl) ?_; refine QJ ?_
 refine zQ ?_
 rfl
theorem Qlg (lo hi : Int) (nm : List Nm) (ps : List Qs) (rs : List Ru) (L : List Qn) (hP : GV 78 [.sl (ps.map WB) none] L 0 1) : GV 48 [.agg (QF (.mk 6 lo hi nm ps rs))] L 1 2 := by
 refine JC [2, 3] Tryz.func48 rfl rfl 91 Tryz.ntmps48 (Nat.le_of_ble_eq_true rfl) ?_
 intro E hN
 refine Yd ?_; refine Yd ?_; refine JA ?_
 refine YH hN [] hP (.fn _ _ _ _ rfl rfl) rfl rfl rfl trivial rfl ⟨WV (Qp _), trivial⟩ rfl (Hn := [(1, .arr 30 4 (L.map Xx))]) (YF (Qp _)) rfl rfl rfl rfl rfl rfl ?_
 refine QA ?_; refine QG ?_
 change (YK _ _).ntt = _ ∧ _
 refine WN rfl ?_ rfl rfl rfl ⟨rfl, rfl, Qw _, trivial⟩
 rfl
theorem QeA (lo hi : Int) (nm : List Nm) (ps : List Qs) (rs : List Ru) (hP : FC Tryz.prog 78 [.sl (ps.map WB) none] (.tup [.sl [] none, bl false])) : FC Tryz.prog 48 [.agg (QF (.mk 6 lo hi nm ps rs))] (.tup [.sl [] none, bl false]) := by
 refine Qd [2, 3] Tryz.func48 rfl rfl 91 Tryz.ntmps48 (Nat.le_of_ble_eq_true rfl) ?_
 intro E hN
 refine Yd ?_; refine Yd ?_; refine JA ?_; refine zP (Qc hP rfl rfl rfl) ?_; refine QJ ?_; refine zQ ?_
 rfl
theorem Qk1 (lo hi : Int) (nm : List Nm) (ps : List Qs) (rs : List Ru) (L : List Qn) (hP : GV 78 [.sl (ps.map WB) none] L 0 1) : GV 48 [.agg (QF (.mk 7 lo hi nm ps rs))] L 1 2 := by
 refine JC [2, 3] Tryz.func48 rfl rfl 91 Tryz.ntmps48 (Nat.le_of_ble_eq_true rfl) ?_
 intro E hN
 refine Yd ?_; refine Yd ?_; refine JA ?_
 refine YH hN [] hP (.fn _ _ _ _ rfl rfl) rfl rfl rfl trivial rfl ⟨WV (Qp _), trivial⟩ rfl (Hn := [(1, .arr 30 4 (L.map Xx))]) (YF (Qp _)) rfl rfl rfl rfl rfl rfl ?_
 refine QA ?_; refine QG ?_
 change (YK _ _).ntt = _ ∧ _
 refine WN rfl ?_ rfl rfl rfl ⟨rfl, rfl, Qw _, trivial⟩
 rfl
theorem Qex (lo hi : Int) (nm : List Nm) (ps : List Qs) (rs : List Ru) (hP : FC Tryz.prog 78 [.sl (ps.map WB) none] (.tup [.sl [] none, bl false])) : FC Tryz.prog 48 [.agg (QF (.mk 7 lo hi nm ps rs))] (.tup [.sl [] none, bl false]) := by
 refine Qd [2, 3] Tryz.func48 rfl rfl 91 Tryz.ntmps48 (Nat.le_of_ble_eq_true rfl) ?_
 intro E hN
 refine Yd ?_; refine Yd ?_; refine JA ?_; refine zP (Qc hP rfl rfl rfl) ?_; refine QJ ?_; refine zQ ?_
 rfl
end Go.Proofs.YtaecccdkjmipeaaGreat
namespace Go.Proofs.YtaecccdkjmipeaaGreat
set_option maxRecDepth 100000
set_option maxHeartbeats 1000000
open Go.RowKit
theorem Qkj (parts : List Qs) (Ls : List (List Qn)) (i0 : Nat) (hi0 : i0 < parts.length) (hl : Ls.length = i0) (hA : ∀ (i : Nat) (p : Qs) (L : List Qn), parts[i]? = some p → Ls[i]? = some L → GV 48 [.agg (QF p)] L 0 1) (hF : ∀ p, parts[i0]? = some p → FC Tryz.prog 48 [.agg (QF p)] (.tup [.sl [] none, bl false]) ∨ ∃ L, GV 48 [.agg (QF p)] L 0 1 ∧ L.length ≤ 256 ∧ 256 < (Xp Ls).length * L.length) (h256 : ∀ i, i ≤ Ls.length → (Xp (Ls.take i)).length ≤ 256) (hL : ∀ L ∈ Ls, L.length ≤ 256) (h64 : parts.length ≤ 64) : FC Tryz.prog 78 [.sl (parts.map WB) none] (.tup [.sl [] none, bl false]) := by
 refine Qd [2, 3] Tryz.func78 rfl rfl 64 Tryz.ntmps78 (Nat.le_of_ble_eq_true rfl) ?_
 intro E hN
 refine XJ ?_; refine zP (Qj rfl rfl rfl rfl (by exact rfl) (by decide) (by decide)) ?_; refine XN ?_
 refine Qi (fun x : {i : Nat // i ≤ i0 ∧ True} => ⟨[(16, .sl (parts.map WB) none), (17, i64 parts.length), (18, i64 (x.1 : Nat)), (4, JM (Xp (Ls.take x.1)))], [], 0⟩) (fun x => i0 - x.1) (⟨0, Nat.zero_le _, by trivial⟩) ?_ ?_
 ·
  exact Qa rfl (Xu ⟨(QE (by simp)), rfl, rfl, rfl, QoB, rfl, trivial⟩) trivial
 rintro ⟨i, hi, gi⟩
 dsimp only
 have hip0 : i < parts.length := by omega
 obtain ⟨pl, hip⟩ := Qk hip0
 have hcs : i < i0 ∨ (i = i0 ∧ FC Tryz.prog 48 [.agg (QF pl)] (.tup [.sl [] none, bl false])) ∨ (i = i0 ∧ ∃ L, GV 48 [.agg (QF pl)] L 0 1 ∧ L.length ≤ 256 ∧ 256 < (Xp Ls).length * L.length) := by
  rcases Nat.lt_or_ge i i0 with h | h
  ·exact .inl h
  have e : i = i0 := by omega
  subst e
  rcases hF pl hip with h | h
  ·exact .inr (.inl ⟨rfl, h⟩)
  exact .inr (.inr ⟨rfl, h⟩)
 rcases hcs with lti | ⟨ei, hN1⟩ | ⟨ei, L, hN2', hLl, hbig⟩
 ·
  obtain ⟨L, hiL⟩ := Qk (show i < Ls.length by omega)
  have hLl := hL L (List.mem_of_getElem? hiL)
  have h2i := h256 i (by omega)
  refine QA ?_
  refine zq ?_ ?_ <;> intro h9
  rotate_left
  ·
   exfalso; simp at h9; omega
  refine QA ?_; refine zP (Qh rfl rfl rfl i rfl _ (Xt hip) rfl) ?_; refine Xz ?_
  refine YH hN [] (hA i pl L hip hiL) (.fn _ _ _ _ rfl rfl) rfl rfl rfl trivial rfl ⟨WV (Qp _), trivial⟩ rfl (Hn := [(1, .arr 30 4 (L.map Xx))]) (YF (Qp _)) rfl rfl rfl rfl rfl rfl ?_
  refine XJ ?_; refine Qu (QB 7 1 rfl rfl (by simp) (QS _) (Qp _) rfl) ?_; refine JU ?_
  refine zP (Xc (b := false) rfl rfl rfl (congrArg Value.bool (Qiw (a := ((Xp (Ls.take i)).map Xx).length) (b := (L.map Xx).length) (by simp only [List.length_map]; have := h256 (i + 1) (by omega); rw [Kg hiL, QbD] at this; exact this)))) ?_
  refine QeT ?_; refine Qu (Yu rfl 9 30 4 rfl) ?_
  refine Qi (fun x : {k : Nat // k ≤ (Xp (Ls.take i)).length ∧ True} => ⟨[(16, .sl (parts.map WB) none), (17, i64 parts.length), (18, i64 (i : Nat)), (7, JM L), (37, JM (Xp (Ls.take i))), (38, i64 (Xp (Ls.take i)).length), (39, i64 (x.1 : Nat)), (9, .own 2 (Ws (Xp (Ls.take i)) L x.1 0).length)], [(2, .arr 30 4 ((Ws (Xp (Ls.take i)) L x.1 0).map Xx))], 3⟩) (fun x => (Xp (Ls.take i)).length - x.1) (⟨0, Nat.zero_le _, by trivial⟩) ?_ ?_
  ·
   exact Qa rfl (QR (Xu ⟨(QE (by simp)), rfl, rfl, rfl, (Kq (by rw [W1]; rfl)), rfl, trivial⟩)) ⟨(Yl (by rw [W1]; rfl)), rfl, (Qw _), trivial⟩
  rintro ⟨k, hk, gk⟩
  dsimp only
  refine QA ?_
  refine zq ?_ ?_ <;> intro h30
  rotate_left
  ·
   have gek : (Xp (Ls.take i)).length ≤ k := by simpa using h30
   refine XJ ?_; refine Qb ?_
   exact ⟨⟨i + 1, lti, trivial⟩, WM.trans (QB 4 2 rfl rfl (by simp) (QS _) (Qp _) rfl) (Qa rfl (Jg ⟨(QE (by dsimp only; omega)), rfl, (Qtt (by rw [Qfm gek, Kg hiL])), rfl, trivial⟩) trivial), by dsimp only; omega⟩
  have ltk : k < (Xp (Ls.take i)).length := by simpa using h30
  obtain ⟨v, hkv⟩ := Qk ltk
  have hvp := Qle _ v (List.mem_of_getElem? hkv)
  rw [List.length_take] at hvp
  refine QA ?_; refine zP (Qh rfl rfl rfl k rfl _ (Xk hkv) rfl) ?_; refine YJ ?_
  refine Qi (fun x : {j : Nat // j ≤ L.length ∧ True} => ⟨[(16, .sl (parts.map WB) none), (17, i64 parts.length), (18, i64 (i : Nat)), (7, JM L), (37, JM (Xp (Ls.take i))), (38, i64 (Xp (Ls.take i)).length), (39, i64 (k : Nat)), (9, .own 2 (Ws (Xp (Ls.take i)) L k x.1).length), (11, .ptr 3 0), (43, JM L), (44, i64 L.length), (45, i64 (x.1 : Nat))], [(2, .arr 30 4 ((Ws (Xp (Ls.take i)) L k x.1).map Xx)), (3, .var 30 (Xm v))], 4⟩) (fun x => L.length - x.1) (⟨0, Nat.zero_le _, by trivial⟩) ?_ ?_
  ·
   exact Qa rfl (QR (QR (Jg ⟨(QE (by simp)), rfl, (Xu trivial)⟩))) ⟨rfl, rfl, (Qw _), rfl, rfl, rfl, trivial⟩
  rintro ⟨j, hj, gj⟩
  dsimp only
  refine QA ?_
  refine zq ?_ ?_ <;> intro h48
  rotate_left
  ·
   have gej : L.length ≤ j := by simpa using h48
   refine QJ ?_; refine Qb ?_
   exact ⟨⟨k + 1, ltk, trivial⟩, Qa rfl (QR (Jg ⟨(QE (by dsimp only; omega)), rfl, (Kq (by rw [Qdh hkv gej])), rfl, trivial⟩)) ⟨(Yl (by rw [Qdh hkv gej])), rfl, (Qw _), trivial⟩, by dsimp only; omega⟩
  have ltj : j < L.length := by simpa using h48
  obtain ⟨q, hjq⟩ := Qk ltj
  refine QA ?_; refine zP (Qh rfl rfl rfl j rfl _ (Xk hjq) rfl) ?_; refine QJ ?_
  refine QdE 11 rfl (by kernel_rfl) (by kernel_rfl) (fun _ _ h => h) ?_; refine yM 0 ?_
  refine Xy 1 rfl (by kernel_rfl) (by kernel_rfl) rfl (Kd hN rfl rfl rfl rfl rfl rfl rfl rfl) ?_
  refine Qf [2, 4] (by kernel_rfl) rfl ⟨.inl (Qx rfl ?_), .inl (Qx rfl ?_), trivial⟩
  ·
   refine zl ?_
   change AU _ _ _ _ _ _ _ _
   refine Qf [3, 4] (by kernel_rfl) rfl ⟨.inr (.inr (Q1 hN rfl rfl (QZ v.ps (by omega)) (.fn _ _ _ _ rfl rfl) rfl rfl rfl rfl rfl ?_)), .inl (Qx rfl ?_), trivial⟩
   ·
    change AU _ _ _ _ _ _ _ _
    refine yL 4 ?_; refine yP 5 rfl (Qj rfl rfl rfl rfl (by exact rfl) (by decide) (by decide)) ?_
    refine Qf [6] (by kernel_rfl) rfl ⟨.inr (.inr (Qe hN rfl rfl rfl rfl (by simp) rfl rfl (by rfl) (by simp [Qg]; omega) rfl rfl rfl rfl ?_)), trivial⟩
    change AU _ _ _ _ _ _ _ _
    refine Qf [7] (by kernel_rfl) rfl ⟨.inr (.inr (Xg hN rfl rfl rfl rfl rfl (QB 55 5 rfl rfl (by simp) (QV (QS _) (by rfl)) (Xn (Qp _) (by intro e he; simp [Qg] at he; subst he; rfl)) rfl) (XB rfl rfl rfl) ?_)), trivial⟩
    change AU _ _ _ _ _ _ _ _
    refine yP 8 rfl (Qj rfl rfl rfl rfl (by exact rfl) (by decide) (by decide)) ?_
    refine Qf [9] (by kernel_rfl) rfl ⟨.inr (.inr (Qe hN rfl rfl rfl rfl (by simp) rfl rfl (by rfl) (by have := YN (L := L) ltk (show j ≤ L.length by omega); have := Nat.mul_le_mul h2i hLl; simp [Qg]; omega) rfl rfl rfl rfl ?_)), trivial⟩
    change AU _ _ _ _ _ _ _ _
    refine yA 10 ?_; refine yD ?_; change J5 _ _ _ _  _; refine QC ?_; refine Qb ?_
    exact ⟨⟨j + 1, ltj, trivial⟩, Qa rfl (QR (Xl ⟨(Kq (by rw [Xv hkv hjq]; simp [Qg])), rfl, (Xl ⟨(QE (by dsimp only; omega)), rfl, trivial⟩)⟩)) ⟨(Yl (by rw [Xv hkv hjq, List.map_append, List.map_cons, List.map_nil, ← Yr])), rfl, (Qw _), rfl, rfl, rfl, trivial⟩, by dsimp only; omega⟩
   refine zl ?_
   change AU _ _ _ _ _ _ _ _
   refine Qf [3, 5] (by kernel_rfl) rfl ⟨.inr (.inr (Q1 hN rfl rfl (QZ v.ps (by omega)) (.fn _ _ _ _ rfl rfl) rfl rfl rfl rfl rfl ?_)), .inl (Qx rfl ?_), trivial⟩
   ·
    change AU _ _ _ _ _ _ _ _
    refine yP 5 rfl (Qj rfl rfl rfl rfl (by exact rfl) (by decide) (by decide)) ?_
    refine Qf [6] (by kernel_rfl) rfl ⟨.inr (.inr (Qe hN rfl rfl rfl rfl (by simp) rfl rfl (by rfl) (by simp [Qg]; omega) rfl rfl rfl rfl ?_)), trivial⟩
    change AU _ _ _ _ _ _ _ _
    refine Qf [7] (by kernel_rfl) rfl ⟨.inr (.inr (Xg hN rfl rfl rfl rfl rfl (QB 55 5 rfl rfl (by simp) (QV (QS _) (by rfl)) (Xn (Qp _) (by intro e he; simp [Qg] at he; subst he; rfl)) rfl) (XB rfl rfl rfl) ?_)), trivial⟩
    change AU _ _ _ _ _ _ _ _
    refine yP 8 rfl (Qj rfl rfl rfl rfl (by exact rfl) (by decide) (by decide)) ?_
    refine Qf [9] (by kernel_rfl) rfl ⟨.inr (.inr (Qe hN rfl rfl rfl rfl (by simp) rfl rfl (by rfl) (by have := YN (L := L) ltk (show j ≤ L.length by omega); have := Nat.mul_le_mul h2i hLl; simp [Qg]; omega) rfl rfl rfl rfl ?_)), trivial⟩
    change AU _ _ _ _ _ _ _ _
    refine yA 10 ?_; refine yD ?_; change J5 _ _ _ _  _; refine QC ?_; refine Qb ?_
    exact ⟨⟨j + 1, ltj, trivial⟩, Qa rfl (QR (Xl ⟨(Kq (by rw [Xv hkv hjq]; simp [Qg])), rfl, (Xl ⟨(QE (by dsimp only; omega)), rfl, trivial⟩)⟩)) ⟨(Yl (by rw [Xv hkv hjq, List.map_append, List.map_cons, List.map_nil, ← Yr])), rfl, (Qw _), rfl, rfl, rfl, trivial⟩, by dsimp only; omega⟩
   refine zp (Qj rfl rfl rfl rfl (by exact rfl) (by decide) (by decide)) ?_
   change AU _ _ _ _ _ _ _ _
   refine Qf [3] (by kernel_rfl) rfl ⟨.inr (.inr (Q1 hN rfl rfl (QZ v.ps (by omega)) (.fn _ _ _ _ rfl rfl) rfl rfl rfl rfl rfl ?_)), trivial⟩
   change AU _ _ _ _ _ _ _ _
   refine Qf [6] (by kernel_rfl) rfl ⟨.inr (.inr (Qe hN rfl rfl rfl rfl (by simp) rfl rfl (by rfl) (by simp [Qg]; omega) rfl rfl rfl rfl ?_)), trivial⟩
   change AU _ _ _ _ _ _ _ _
   refine Qf [7] (by kernel_rfl) rfl ⟨.inr (.inr (Xg hN rfl rfl rfl rfl rfl (QB 55 5 rfl rfl (by simp) (QV (QS _) (by rfl)) (Xn (Qp _) (by intro e he; simp [Qg] at he; subst he; rfl)) rfl) (XB rfl rfl rfl) ?_)), trivial⟩
   change AU _ _ _ _ _ _ _ _
   refine yP 8 rfl (Qj rfl rfl rfl rfl (by exact rfl) (by decide) (by decide)) ?_
   refine Qf [9] (by kernel_rfl) rfl ⟨.inr (.inr (Qe hN rfl rfl rfl rfl (by simp) rfl rfl (by rfl) (by have := YN (L := L) ltk (show j ≤ L.length by omega); have := Nat.mul_le_mul h2i hLl; simp [Qg]; omega) rfl rfl rfl rfl ?_)), trivial⟩
   change AU _ _ _ _ _ _ _ _
   refine yA 10 ?_; refine yD ?_; change J5 _ _ _ _  _; refine QC ?_; refine Qb ?_
   exact ⟨⟨j + 1, ltj, trivial⟩, Qa rfl (QR (Xl ⟨(Kq (by rw [Xv hkv hjq]; simp [Qg])), rfl, (Xl ⟨(QE (by dsimp only; omega)), rfl, trivial⟩)⟩)) ⟨(Yl (by rw [Xv hkv hjq, List.map_append, List.map_cons, List.map_nil, ← Yr])), rfl, (Qw _), rfl, rfl, rfl, trivial⟩, by dsimp only; omega⟩
  refine zl ?_
  change AU _ _ _ _ _ _ _ _
  refine Qf [2, 5] (by kernel_rfl) rfl ⟨.inl (Qx rfl ?_), .inl (Qx rfl ?_), trivial⟩
  ·
   refine zl ?_
   change AU _ _ _ _ _ _ _ _
   refine Qf [3, 5] (by kernel_rfl) rfl ⟨.inr (.inr (Q1 hN rfl rfl (QZ v.ps (by omega)) (.fn _ _ _ _ rfl rfl) rfl rfl rfl rfl rfl ?_)), .inl (Qx rfl ?_), trivial⟩
   ·
    change AU _ _ _ _ _ _ _ _
    refine yP 5 rfl (Qj rfl rfl rfl rfl (by exact rfl) (by decide) (by decide)) ?_
    refine Qf [6] (by kernel_rfl) rfl ⟨.inr (.inr (Qe hN rfl rfl rfl rfl (by simp) rfl rfl (by rfl) (by simp [Qg]; omega) rfl rfl rfl rfl ?_)), trivial⟩
    change AU _ _ _ _ _ _ _ _
    refine Qf [7] (by kernel_rfl) rfl ⟨.inr (.inr (Xg hN rfl rfl rfl rfl rfl (QB 55 5 rfl rfl (by simp) (QV (QS _) (by rfl)) (Xn (Qp _) (by intro e he; simp [Qg] at he; subst he; rfl)) rfl) (XB rfl rfl rfl) ?_)), trivial⟩
    change AU _ _ _ _ _ _ _ _
    refine yP 8 rfl (Qj rfl rfl rfl rfl (by exact rfl) (by decide) (by decide)) ?_
    refine Qf [9] (by kernel_rfl) rfl ⟨.inr (.inr (Qe hN rfl rfl rfl rfl (by simp) rfl rfl (by rfl) (by have := YN (L := L) ltk (show j ≤ L.length by omega); have := Nat.mul_le_mul h2i hLl; simp [Qg]; omega) rfl rfl rfl rfl ?_)), trivial⟩
    change AU _ _ _ _ _ _ _ _
    refine yA 10 ?_; refine yD ?_; change J5 _ _ _ _  _; refine QC ?_; refine Qb ?_
    exact ⟨⟨j + 1, ltj, trivial⟩, Qa rfl (QR (Xl ⟨(Kq (by rw [Xv hkv hjq]; simp [Qg])), rfl, (Xl ⟨(QE (by dsimp only; omega)), rfl, trivial⟩)⟩)) ⟨(Yl (by rw [Xv hkv hjq, List.map_append, List.map_cons, List.map_nil, ← Yr])), rfl, (Qw _), rfl, rfl, rfl, trivial⟩, by dsimp only; omega⟩
   refine zp (Qj rfl rfl rfl rfl (by exact rfl) (by decide) (by decide)) ?_
   change AU _ _ _ _ _ _ _ _
   refine Qf [3] (by kernel_rfl) rfl ⟨.inr (.inr (Q1 hN rfl rfl (QZ v.ps (by omega)) (.fn _ _ _ _ rfl rfl) rfl rfl rfl rfl rfl ?_)), trivial⟩
   change AU _ _ _ _ _ _ _ _
   refine Qf [6] (by kernel_rfl) rfl ⟨.inr (.inr (Qe hN rfl rfl rfl rfl (by simp) rfl rfl (by rfl) (by simp [Qg]; omega) rfl rfl rfl rfl ?_)), trivial⟩
   change AU _ _ _ _ _ _ _ _
   refine Qf [7] (by kernel_rfl) rfl ⟨.inr (.inr (Xg hN rfl rfl rfl rfl rfl (QB 55 5 rfl rfl (by simp) (QV (QS _) (by rfl)) (Xn (Qp _) (by intro e he; simp [Qg] at he; subst he; rfl)) rfl) (XB rfl rfl rfl) ?_)), trivial⟩
   change AU _ _ _ _ _ _ _ _
   refine yP 8 rfl (Qj rfl rfl rfl rfl (by exact rfl) (by decide) (by decide)) ?_
   refine Qf [9] (by kernel_rfl) rfl ⟨.inr (.inr (Qe hN rfl rfl rfl rfl (by simp) rfl rfl (by rfl) (by have := YN (L := L) ltk (show j ≤ L.length by omega); have := Nat.mul_le_mul h2i hLl; simp [Qg]; omega) rfl rfl rfl rfl ?_)), trivial⟩
   change AU _ _ _ _ _ _ _ _
   refine yA 10 ?_; refine yD ?_; change J5 _ _ _ _  _; refine QC ?_; refine Qb ?_
   exact ⟨⟨j + 1, ltj, trivial⟩, Qa rfl (QR (Xl ⟨(Kq (by rw [Xv hkv hjq]; simp [Qg])), rfl, (Xl ⟨(QE (by dsimp only; omega)), rfl, trivial⟩)⟩)) ⟨(Yl (by rw [Xv hkv hjq, List.map_append, List.map_cons, List.map_nil, ← Yr])), rfl, (Qw _), rfl, rfl, rfl, trivial⟩, by dsimp only; omega⟩
  refine zp (Qj rfl rfl rfl rfl (by exact rfl) (by decide) (by decide)) ?_
  change AU _ _ _ _ _ _ _ _
  refine yL 2 ?_
  refine Qf [3] (by kernel_rfl) rfl ⟨.inr (.inr (Q1 hN rfl rfl (QZ v.ps (by omega)) (.fn _ _ _ _ rfl rfl) rfl rfl rfl rfl rfl ?_)), trivial⟩
  change AU _ _ _ _ _ _ _ _
  refine Qf [6] (by kernel_rfl) rfl ⟨.inr (.inr (Qe hN rfl rfl rfl rfl (by simp) rfl rfl (by rfl) (by simp [Qg]; omega) rfl rfl rfl rfl ?_)), trivial⟩
  change AU _ _ _ _ _ _ _ _
  refine Qf [7] (by kernel_rfl) rfl ⟨.inr (.inr (Xg hN rfl rfl rfl rfl rfl (QB 55 5 rfl rfl (by simp) (QV (QS _) (by rfl)) (Xn (Qp _) (by intro e he; simp [Qg] at he; subst he; rfl)) rfl) (XB rfl rfl rfl) ?_)), trivial⟩
  change AU _ _ _ _ _ _ _ _
  refine yP 8 rfl (Qj rfl rfl rfl rfl (by exact rfl) (by decide) (by decide)) ?_
  refine Qf [9] (by kernel_rfl) rfl ⟨.inr (.inr (Qe hN rfl rfl rfl rfl (by simp) rfl rfl (by rfl) (by have := YN (L := L) ltk (show j ≤ L.length by omega); have := Nat.mul_le_mul h2i hLl; simp [Qg]; omega) rfl rfl rfl rfl ?_)), trivial⟩
  change AU _ _ _ _ _ _ _ _
  refine yA 10 ?_; refine yD ?_; change J5 _ _ _ _  _; refine QC ?_; refine Qb ?_
  exact ⟨⟨j + 1, ltj, trivial⟩, Qa rfl (QR (Xl ⟨(Kq (by rw [Xv hkv hjq]; simp [Qg])), rfl, (Xl ⟨(QE (by dsimp only; omega)), rfl, trivial⟩)⟩)) ⟨(Yl (by rw [Xv hkv hjq, List.map_append, List.map_cons, List.map_nil, ← Yr])), rfl, (Qw _), rfl, rfl, rfl, trivial⟩, by dsimp only; omega⟩
 ·
  skip
  refine QA ?_
  refine zq ?_ ?_ <;> intro h111
  rotate_left
  ·
   exfalso; simp at h111; omega
  refine QA ?_; refine zP (Qh rfl rfl rfl i rfl _ (Xt hip) rfl) ?_; refine Xz ?_; refine zP (Qc hN1 rfl rfl rfl) ?_; refine XJ ?_
  skip
  refine Qe3 ?_; refine zQ ?_
  rfl
 skip
 refine QA ?_
 refine zq ?_ ?_ <;> intro h120
 rotate_left
 ·
  exfalso; simp at h120; omega
 refine QA ?_; refine zP (Qh rfl rfl rfl i rfl _ (Xt hip) rfl) ?_; refine Xz ?_
 refine YH hN [] hN2' (.fn _ _ _ _ rfl rfl) rfl rfl rfl trivial rfl ⟨WV (Qp _), trivial⟩ rfl (Hn := [(1, .arr 30 4 (L.map Xx))]) (YF (Qp _)) rfl rfl rfl rfl rfl rfl ?_
 refine XJ ?_; refine Qu (QB 7 1 rfl rfl (by simp) (QS _) (Qp _) rfl) ?_; refine JU ?_
 refine zP (Xc (b := true) rfl rfl rfl (congrArg Value.bool (by rw [← Int.natCast_mul, IntWalk.i64_in _ (by have := Nat.mul_le_mul (h256 i (by omega)) hLl; simp only [List.length_map]; omega)]; simp; rw [ei, List.take_of_length_le (by omega)]; rw [← Int.natCast_mul]; exact Int.ofNat_lt.2 hbig))) ?_
 refine Xz ?_; refine zQ ?_
 rfl
end Go.Proofs.YtaecccdkjmipeaaGreat
