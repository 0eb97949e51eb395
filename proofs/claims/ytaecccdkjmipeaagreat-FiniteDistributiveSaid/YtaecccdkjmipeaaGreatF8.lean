/-
  Contracts: finite.Index, Table at the chapter's description 
-/
import Derived.Test.YtaecccdkjmipeaaGreatF7
import Derived.Test.YtaecccdkjmipeaaGreatB23
import Derived.Test.YtaecccdkjmipeaaGreatB16
import Derived.Test.YtaecccdkjmipeaaGreatA10
namespace Go.Proofs.YtaecccdkjmipeaaGreat
set_option maxRecDepth 100000
set_option maxHeartbeats 1000000
open Go.RowKit
def dia (i j : Nat) : Nat := ([[0, 1, 2, 3], [1, 1, 3, 3], [2, 3, 2, 3], [3, 3, 3, 3]].getD i []).getD j 0
theorem Qcu : KP (XD 4 dia) 4 dia := ⟨rfl, by decide, by decide, fun i j hi hj => (by decide : ∀ i, i < 4 → ∀ j, j < 4 → dia i j < 4) i hi j hj⟩
theorem dvJ {i j : Nat} {a b : Qn} (ha : dv[i]? = some a) (hb : dv[j]? = some b) : dv[dia i j]? = some (QK dl a b) := by
 have hi : i < 4 := (List.getElem?_eq_some_iff.1 ha).1
 have hj : j < 4 := (List.getElem?_eq_some_iff.1 hb).1
 match i, j, hi, hj with
 | 0, 0, _, _ => cases ha; cases hb; rfl
 | 0, 1, _, _ => cases ha; cases hb; rfl
 | 0, 2, _, _ => cases ha; cases hb; rfl
 | 0, 3, _, _ => cases ha; cases hb; rfl
 | 1, 0, _, _ => cases ha; cases hb; rfl
 | 1, 1, _, _ => cases ha; cases hb; rfl
 | 1, 2, _, _ => cases ha; cases hb; rfl
 | 1, 3, _, _ => cases ha; cases hb; rfl
 | 2, 0, _, _ => cases ha; cases hb; rfl
 | 2, 1, _, _ => cases ha; cases hb; rfl
 | 2, 2, _, _ => cases ha; cases hb; rfl
 | 2, 3, _, _ => cases ha; cases hb; rfl
 | 3, 0, _, _ => cases ha; cases hb; rfl
 | 3, 1, _, _ => cases ha; cases hb; rfl
 | 3, 2, _, _ => cases ha; cases hb; rfl
 | 3, 3, _, _ => cases ha; cases hb; rfl
theorem Ql9 {a : Qn} (h : a ∈ dv) : Qr a dl = true := by
 have : ∀ a ∈ dv, Qr a dl = true := by decide
 exact this a h
theorem QuR {a : Qn} (h : a ∈ dv) : SmV 1000 a := by
 have h2 : dv = [.mk 0 [] [.mk 0 [] [] [], .mk 0 [] [] []] [], .mk 0 [] [.mk 0 [] [] [], .mk 1 [] [] []] [], .mk 0 [] [.mk 1 [] [] [], .mk 0 [] [] []] [], .mk 0 [] [.mk 1 [] [] [], .mk 1 [] [] []] []] := rfl
 rw [h2] at h
 simp only [List.mem_cons, List.not_mem_nil, or_false] at h
 rcases h with rfl | rfl | rfl | rfl <;> exact (QrM (by kernel_rfl)).up (by decide)
theorem Qrd {i j : Nat} {a b w : Qn} (ha : dv[i]? = some a) (hb : dv[j]? = some b) (hw : dv[dia i j]? = some w) : FC Tryz.prog 59 [.agg (QF dl), .agg (Xm a), .agg (Xm b)] (.tup [.agg (Xm w), i64 0]) := by
 have ma := List.mem_of_getElem? ha
 have mb := List.mem_of_getElem? hb
 have h := Qoi dl a b (fun _ => Qo0 (QP Qou) (by simp [Ql9 ma, Ql9 mb, QuR ma, QuR mb]) (by simp))
 rw [QfT (Qjo Qou (by simp [Ql9 ma, Ql9 mb])) (QkB (QP Qou) (Ql9 ma))] at h
 rw [dvJ ha hb] at hw
 cases hw
 exact h
def Qrx (n : Nat) (f : Nat → Nat → Nat) (i : Nat) : List AV := QjN (Qbx n f i)
def tEl (f : Nat → Nat → Nat) (i j : Nat) : List AV := QeF (f i j)
theorem Qs6 (n : Nat) (f : Nat → Nat → Nat) (i : Nat) : Wz n (tEl f i) Qo8 n = (Qbx n f i).map iv1 := by
 rw [QdI (Nat.le_refl n)]
 unfold Qbx
 rw [List.map_map]; rfl
theorem Qpt (L : Qs) (l : List Qn) (hv : FC Tryz.prog 14 [.agg (QF L)] (.tup [JM l, i64 0])) (hs : l.Pairwise (fun x y => Jk x y < 0)) (h6 : l.length ≤ 1000000) (k : Nat) (v : Qn) (hk : l[k]? = some v) : FC Tryz.prog 15 [.agg (QF L), .agg (Xm v)] (.tup [i64 (k : Nat), i64 0]) := by
 refine Qd [4, 5] Tryz.func15 rfl rfl 27 Tryz.ntmps15 (Nat.le_of_ble_eq_true rfl) ?_
 intro E hN
 refine XN ?_; refine zP (Qc hv rfl rfl rfl) ?_; refine QlK ?_; refine zP (Qc (Wh l k v hk hs h6) rfl rfl rfl) ?_; refine Qil ?_
 refine zQ ?_
 rfl
theorem QkI (L : Qs) (l : List Qn) (n : Nat) (f : Nat → Nat → Nat) (hln : l.length = n) (h256 : n ≤ 256) (hlt : ∀ i j, i < n → j < n → f i j < n) (hv : FC Tryz.prog 14 [.agg (QF L)] (.tup [JM l, i64 0])) (hs : l.Pairwise (fun x y => Jk x y < 0)) (hJ : ∀ (i j : Nat) (a b w : Qn), l[i]? = some a → l[j]? = some b → l[f i j]? = some w → FC Tryz.prog 59 [.agg (QF L), .agg (Xm a), .agg (Xm b)] (.tup [.agg (Xm w), i64 0])) : FC Tryz.prog 23 [.agg (QF L)] (.tup [Xr (XD n f), i64 0]) := by
 refine Qd [2, 3] Tryz.func23 rfl rfl 69 Tryz.ntmps23 (Nat.le_of_ble_eq_true rfl) ?_
 intro E hN
 refine JU ?_; refine zP (Qc hv rfl rfl rfl) ?_; refine QlK ?_
 refine QdH hN rfl (k := 1) (zs := [.slice none 0 0]) rfl (y := 24) (by kernel_rfl) rfl rfl (n := n) (QE (by simp [hln])) (QE (by simp [hln])) (by omega) rfl rfl rfl rfl ?_
 refine XN ?_
 refine Qi (fun x : {i : Nat // i ≤ n ∧ True} => ⟨[(1, .ptr 0 0), (4, JM l), (6, .own 1 n), (23, i64 n), (24, i64 (x.1 : Nat))], [(0, .var 26 (QF L)), (1, .arr 56 1 (Wz n (Qrx n f) Qpa x.1))], 2⟩) (fun x => n - x.1) (⟨0, Nat.zero_le _, by trivial⟩) ?_ ?_
 ·
  exact Qa rfl (Xl ⟨(QE (by simp [hln])), rfl, (Xu trivial)⟩) ⟨rfl, rfl, rfl, (Yl (by rw [Qdo, Qdv]; rfl)), rfl, (Qv (fun _ => rfl) (fun _ => rfl)), trivial⟩
 rintro ⟨i, hi, gi⟩
 dsimp only
 refine QA ?_
 refine zq ?_ ?_ <;> intro h16
 rotate_left
 ·
  have gei : n ≤ i := by have := of_decide_eq_false h16; omega
  obtain rfl : n = i := by omega
  refine Xz ?_
  refine Qu (QB 2 1 rfl (es := (List.range n).map (Qrx n f)) (by exact Yl (QdI (Nat.le_refl _))) (by simp) (XA (fun _ => rfl) _) (JB (fun _ => rfl) _) rfl) ?_
  refine zR ?_
  show AV.tup [AV.sl ((List.range n).map (Qrx n f)) none, i64 0] = AV.tup [AV.sl (((List.range n).map (Qbx n f)).map QjN) none, i64 0]
  rw [List.map_map]; rfl
 have lti : i < n := by have := of_decide_eq_true h16; omega
 obtain ⟨a, hia⟩ := Qk (show i < l.length by omega)
 refine WG ?_
 refine QdH hN rfl (k := 1) (zs := [.int .i64 0]) rfl (y := 8) (by kernel_rfl) rfl rfl (n := n) (QE (by simp [hln])) (QE (by simp [hln])) (by omega) rfl rfl rfl rfl ?_
 refine zP (JL rfl rfl rfl rfl XC.symm i rfl lti) ?_
 refine Qb4 hN rfl rfl rfl XC.symm i rfl (by rw [XC]; exact lti) rfl (Qh5 rfl (by simp)) rfl rfl (WE (fun _ => rfl) (fun _ => rfl)) rfl rfl rfl rfl ?_
 refine XJ ?_
 refine Qi (fun x : {j : Nat // j ≤ n ∧ True} => ⟨[(1, .ptr 0 0), (4, JM l), (6, .own 1 n), (23, i64 n), (24, i64 (i : Nat)), (7, i64 (i : Nat)), (34, i64 n), (35, i64 (x.1 : Nat))], [(0, .var 26 (QF L)), (1, .arr 56 1 ((Wz n (Qrx n f) Qpa i).set i [.own 2 n])), (2, .arr 3 1 (Wz n (tEl f i) Qo8 x.1))], 3⟩) (fun x => n - x.1) (⟨0, Nat.zero_le _, by trivial⟩) ?_ ?_
 ·
  exact Qa rfl (QR (Jg ⟨(QE (by simp [hln])), rfl, (Xu trivial)⟩)) ⟨rfl, rfl, rfl, rfl, rfl, (XE (Qv (fun _ => rfl) (fun _ => rfl)) rfl i), (Yl (by rw [Qdo, Qdv]; rfl)), rfl, (Qv (fun _ => rfl) (fun _ => rfl)), trivial⟩
 rintro ⟨j, hj, gj⟩
 dsimp only
 refine QA ?_
 refine zq ?_ ?_ <;> intro h30
 rotate_left
 ·
  have gej : n ≤ j := by have := of_decide_eq_false h30; omega
  obtain rfl : n = j := by omega
  refine KO ?_
  refine Qu (Qhh 1 i 2 rfl (by exact Qcj lti) (by exact Yl (Qs6 n f i)) rfl (by simp [Qbx]) (XA (fun _ => rfl) _) (JB (fun _ => rfl) _) rfl rfl) ?_
  refine QC ?_; refine Qb ?_
  exact ⟨⟨i + 1, lti, trivial⟩, Qa rfl (QR ⟨(QE (by dsimp only; omega)), rfl, trivial⟩) ⟨rfl, rfl, rfl, (Yl (QnT lti rfl)), rfl, (Qv (fun _ => rfl) (fun _ => rfl)), trivial⟩, by dsimp only; omega⟩
 have ltj : j < n := by have := of_decide_eq_true h30; omega
 obtain ⟨b, hjb⟩ := Qk (show j < l.length by omega)
 obtain ⟨w, hw⟩ := Qk (show f i j < l.length by have := hlt i j lti ltj; omega)
 refine XJ ?_
 refine QaL (⟨[(1, .ptr 0 0), (4, JM l), (6, .own 1 n), (23, i64 n), (24, i64 (i : Nat)), (7, i64 (i : Nat)), (34, i64 n), (35, i64 (j : Nat)), (8, i64 (j : Nat)), (9, .ptr 3 0), (10, i64 0)], [(0, .var 26 (QF L)), (1, .arr 56 1 ((Wz n (Qrx n f) Qpa i).set i [.own 2 n])), (2, .arr 3 1 (Wz n (tEl f i) Qo8 j)), (3, .var 30 (Xm w))], 4⟩) ?_ ?_
 ·
  refine QdE 16 rfl (by kernel_rfl) (by kernel_rfl) (fun _ _ h => h) ?_; refine yM 1 ?_; refine yM 2 ?_
  refine Xy 3 rfl (by kernel_rfl) (by kernel_rfl) rfl (Qgr hN rfl rfl rfl i rfl _ (Xk hia) rfl rfl rfl rfl rfl) ?_; refine yM 5 ?_
  refine yM 6 ?_; refine Xy 7 rfl (by kernel_rfl) (by kernel_rfl) rfl (Qgr hN rfl rfl rfl j rfl _ (Xk hjb) rfl rfl rfl rfl rfl) ?_
  refine Qf [0, 4, 8, 13] (by kernel_rfl) rfl ⟨.inl (Qx rfl ?_), .inl (Qx rfl ?_), .inl (Qx rfl ?_), .inr (.inr (Jz hN rfl rfl rfl rfl rfl rfl rfl ?_)), trivial⟩
  ·
   refine zl ?_
   change AU _ _ _ _ _ _ _ _
   refine Qf [4, 8, 13] (by kernel_rfl) rfl ⟨.inl (Qx rfl ?_), .inl (Qx rfl ?_), .inr (.inr (Jz hN rfl rfl rfl rfl rfl rfl rfl ?_)), trivial⟩
   ·
    refine zl ?_
    change AU _ _ _ _ _ _ _ _
    refine Qf [8, 13] (by kernel_rfl) rfl ⟨.inl (Qx rfl ?_), .inr (.inr (Jz hN rfl rfl rfl rfl rfl rfl rfl ?_)), trivial⟩
    ·
     refine zl ?_
     change AU _ _ _ _ _ _ _ _
     refine Qf [9, 13] (by kernel_rfl) rfl ⟨.inl (Qx rfl ?_), .inr (.inr (Jz hN rfl rfl rfl rfl rfl rfl rfl ?_)), trivial⟩
     ·
      refine zp (Qc (hJ i j a b w hia hjb hw) rfl rfl rfl) ?_
      change AU _ _ _ _ _ _ _ _
      refine yM 10 ?_; refine yX 11 ?_; refine yX 12 ?_
      refine Qf [13] (by kernel_rfl) rfl ⟨.inr (.inr (Jz hN rfl rfl rfl rfl rfl rfl rfl ?_)), trivial⟩
      change AU _ _ _ _ _ _ _ _
      refine yS 14 ?_; refine yA 15 ?_; refine yD ?_
      exact Qa rfl (QR (QR (Xl trivial))) ⟨rfl, rfl, rfl, rfl, rfl, (XE (Qv (fun _ => rfl) (fun _ => rfl)) rfl i), rfl, rfl, (Qv (fun _ => rfl) (fun _ => rfl)), rfl, rfl, rfl, trivial⟩
     change AU _ _ _ _ _ _ _ _
     refine yP 9 rfl (Qc (hJ i j a b w hia hjb hw) rfl rfl rfl) ?_; refine yM 10 ?_; refine yX 11 ?_; refine yX 12 ?_; refine yS 14 ?_
     refine yA 15 ?_; refine yD ?_
     exact Qa rfl (QR (QR (Xl trivial))) ⟨rfl, rfl, rfl, rfl, rfl, (XE (Qv (fun _ => rfl) (fun _ => rfl)) rfl i), rfl, rfl, (Qv (fun _ => rfl) (fun _ => rfl)), rfl, rfl, rfl, trivial⟩
    change AU _ _ _ _ _ _ _ _
    refine yL 8 ?_; refine yP 9 rfl (Qc (hJ i j a b w hia hjb hw) rfl rfl rfl) ?_; refine yM 10 ?_; refine yX 11 ?_; refine yX 12 ?_
    refine yS 14 ?_; refine yA 15 ?_; refine yD ?_
    exact Qa rfl (QR (QR (Xl trivial))) ⟨rfl, rfl, rfl, rfl, rfl, (XE (Qv (fun _ => rfl) (fun _ => rfl)) rfl i), rfl, rfl, (Qv (fun _ => rfl) (fun _ => rfl)), rfl, rfl, rfl, trivial⟩
   ·
    refine zl ?_
    change AU _ _ _ _ _ _ _ _
    refine Qf [4, 13] (by kernel_rfl) rfl ⟨.inl (Qx rfl ?_), .inr (.inr (Jz hN rfl rfl rfl rfl rfl rfl rfl ?_)), trivial⟩
    ·
     refine zl ?_
     change AU _ _ _ _ _ _ _ _
     refine Qf [9, 13] (by kernel_rfl) rfl ⟨.inl (Qx rfl ?_), .inr (.inr (Jz hN rfl rfl rfl rfl rfl rfl rfl ?_)), trivial⟩
     ·
      refine zp (Qc (hJ i j a b w hia hjb hw) rfl rfl rfl) ?_
      change AU _ _ _ _ _ _ _ _
      refine yM 10 ?_; refine yX 11 ?_; refine yX 12 ?_
      refine Qf [13] (by kernel_rfl) rfl ⟨.inr (.inr (Jz hN rfl rfl rfl rfl rfl rfl rfl ?_)), trivial⟩
      change AU _ _ _ _ _ _ _ _
      refine yS 14 ?_; refine yA 15 ?_; refine yD ?_
      exact Qa rfl (QR (QR (Xl trivial))) ⟨rfl, rfl, rfl, rfl, rfl, (XE (Qv (fun _ => rfl) (fun _ => rfl)) rfl i), rfl, rfl, (Qv (fun _ => rfl) (fun _ => rfl)), rfl, rfl, rfl, trivial⟩
     change AU _ _ _ _ _ _ _ _
     refine yP 9 rfl (Qc (hJ i j a b w hia hjb hw) rfl rfl rfl) ?_; refine yM 10 ?_; refine yX 11 ?_; refine yX 12 ?_; refine yS 14 ?_
     refine yA 15 ?_; refine yD ?_
     exact Qa rfl (QR (QR (Xl trivial))) ⟨rfl, rfl, rfl, rfl, rfl, (XE (Qv (fun _ => rfl) (fun _ => rfl)) rfl i), rfl, rfl, (Qv (fun _ => rfl) (fun _ => rfl)), rfl, rfl, rfl, trivial⟩
    change AU _ _ _ _ _ _ _ _
    refine yL 4 ?_; refine yP 9 rfl (Qc (hJ i j a b w hia hjb hw) rfl rfl rfl) ?_; refine yM 10 ?_; refine yX 11 ?_; refine yX 12 ?_
    refine yS 14 ?_; refine yA 15 ?_; refine yD ?_
    exact Qa rfl (QR (QR (Xl trivial))) ⟨rfl, rfl, rfl, rfl, rfl, (XE (Qv (fun _ => rfl) (fun _ => rfl)) rfl i), rfl, rfl, (Qv (fun _ => rfl) (fun _ => rfl)), rfl, rfl, rfl, trivial⟩
   change AU _ _ _ _ _ _ _ _
   refine Qf [4, 8] (by kernel_rfl) rfl ⟨.inl (Qx rfl ?_), .inl (Qx rfl ?_), trivial⟩
   ·
    refine zl ?_
    change AU _ _ _ _ _ _ _ _
    refine yL 8 ?_; refine yP 9 rfl (Qc (hJ i j a b w hia hjb hw) rfl rfl rfl) ?_; refine yM 10 ?_; refine yX 11 ?_; refine yX 12 ?_
    refine yS 14 ?_; refine yA 15 ?_; refine yD ?_
    exact Qa rfl (QR (QR (Xl trivial))) ⟨rfl, rfl, rfl, rfl, rfl, (XE (Qv (fun _ => rfl) (fun _ => rfl)) rfl i), rfl, rfl, (Qv (fun _ => rfl) (fun _ => rfl)), rfl, rfl, rfl, trivial⟩
   refine zl ?_
   change AU _ _ _ _ _ _ _ _
   refine yL 4 ?_; refine yP 9 rfl (Qc (hJ i j a b w hia hjb hw) rfl rfl rfl) ?_; refine yM 10 ?_; refine yX 11 ?_; refine yX 12 ?_
   refine yS 14 ?_; refine yA 15 ?_; refine yD ?_
   exact Qa rfl (QR (QR (Xl trivial))) ⟨rfl, rfl, rfl, rfl, rfl, (XE (Qv (fun _ => rfl) (fun _ => rfl)) rfl i), rfl, rfl, (Qv (fun _ => rfl) (fun _ => rfl)), rfl, rfl, rfl, trivial⟩
  ·
   refine zl ?_
   change AU _ _ _ _ _ _ _ _
   refine Qf [0, 8, 13] (by kernel_rfl) rfl ⟨.inl (Qx rfl ?_), .inl (Qx rfl ?_), .inr (.inr (Jz hN rfl rfl rfl rfl rfl rfl rfl ?_)), trivial⟩
   ·
    refine zl ?_
    change AU _ _ _ _ _ _ _ _
    refine Qf [8, 13] (by kernel_rfl) rfl ⟨.inl (Qx rfl ?_), .inr (.inr (Jz hN rfl rfl rfl rfl rfl rfl rfl ?_)), trivial⟩
    ·
     refine zl ?_
     change AU _ _ _ _ _ _ _ _
     refine Qf [9, 13] (by kernel_rfl) rfl ⟨.inl (Qx rfl ?_), .inr (.inr (Jz hN rfl rfl rfl rfl rfl rfl rfl ?_)), trivial⟩
     ·
      refine zp (Qc (hJ i j a b w hia hjb hw) rfl rfl rfl) ?_
      change AU _ _ _ _ _ _ _ _
      refine yM 10 ?_; refine yX 11 ?_; refine yX 12 ?_
      refine Qf [13] (by kernel_rfl) rfl ⟨.inr (.inr (Jz hN rfl rfl rfl rfl rfl rfl rfl ?_)), trivial⟩
      change AU _ _ _ _ _ _ _ _
      refine yS 14 ?_; refine yA 15 ?_; refine yD ?_
      exact Qa rfl (QR (QR (Xl trivial))) ⟨rfl, rfl, rfl, rfl, rfl, (XE (Qv (fun _ => rfl) (fun _ => rfl)) rfl i), rfl, rfl, (Qv (fun _ => rfl) (fun _ => rfl)), rfl, rfl, rfl, trivial⟩
     change AU _ _ _ _ _ _ _ _
     refine yP 9 rfl (Qc (hJ i j a b w hia hjb hw) rfl rfl rfl) ?_; refine yM 10 ?_; refine yX 11 ?_; refine yX 12 ?_; refine yS 14 ?_
     refine yA 15 ?_; refine yD ?_
     exact Qa rfl (QR (QR (Xl trivial))) ⟨rfl, rfl, rfl, rfl, rfl, (XE (Qv (fun _ => rfl) (fun _ => rfl)) rfl i), rfl, rfl, (Qv (fun _ => rfl) (fun _ => rfl)), rfl, rfl, rfl, trivial⟩
    change AU _ _ _ _ _ _ _ _
    refine yL 8 ?_; refine yP 9 rfl (Qc (hJ i j a b w hia hjb hw) rfl rfl rfl) ?_; refine yM 10 ?_; refine yX 11 ?_; refine yX 12 ?_
    refine yS 14 ?_; refine yA 15 ?_; refine yD ?_
    exact Qa rfl (QR (QR (Xl trivial))) ⟨rfl, rfl, rfl, rfl, rfl, (XE (Qv (fun _ => rfl) (fun _ => rfl)) rfl i), rfl, rfl, (Qv (fun _ => rfl) (fun _ => rfl)), rfl, rfl, rfl, trivial⟩
   ·
    refine zl ?_
    change AU _ _ _ _ _ _ _ _
    refine Qf [0, 13] (by kernel_rfl) rfl ⟨.inl (Qx rfl ?_), .inr (.inr (Jz hN rfl rfl rfl rfl rfl rfl rfl ?_)), trivial⟩
    ·
     refine zl ?_
     change AU _ _ _ _ _ _ _ _
     refine Qf [9, 13] (by kernel_rfl) rfl ⟨.inl (Qx rfl ?_), .inr (.inr (Jz hN rfl rfl rfl rfl rfl rfl rfl ?_)), trivial⟩
     ·
      refine zp (Qc (hJ i j a b w hia hjb hw) rfl rfl rfl) ?_
      change AU _ _ _ _ _ _ _ _
      refine yM 10 ?_; refine yX 11 ?_; refine yX 12 ?_
      refine Qf [13] (by kernel_rfl) rfl ⟨.inr (.inr (Jz hN rfl rfl rfl rfl rfl rfl rfl ?_)), trivial⟩
      change AU _ _ _ _ _ _ _ _
      refine yS 14 ?_; refine yA 15 ?_; refine yD ?_
      exact Qa rfl (QR (QR (Xl trivial))) ⟨rfl, rfl, rfl, rfl, rfl, (XE (Qv (fun _ => rfl) (fun _ => rfl)) rfl i), rfl, rfl, (Qv (fun _ => rfl) (fun _ => rfl)), rfl, rfl, rfl, trivial⟩
     change AU _ _ _ _ _ _ _ _
     refine yP 9 rfl (Qc (hJ i j a b w hia hjb hw) rfl rfl rfl) ?_; refine yM 10 ?_; refine yX 11 ?_; refine yX 12 ?_; refine yS 14 ?_
     refine yA 15 ?_; refine yD ?_
     exact Qa rfl (QR (QR (Xl trivial))) ⟨rfl, rfl, rfl, rfl, rfl, (XE (Qv (fun _ => rfl) (fun _ => rfl)) rfl i), rfl, rfl, (Qv (fun _ => rfl) (fun _ => rfl)), rfl, rfl, rfl, trivial⟩
    change AU _ _ _ _ _ _ _ _
    refine yL 0 ?_; refine yP 9 rfl (Qc (hJ i j a b w hia hjb hw) rfl rfl rfl) ?_; refine yM 10 ?_; refine yX 11 ?_; refine yX 12 ?_
    refine yS 14 ?_; refine yA 15 ?_; refine yD ?_
    exact Qa rfl (QR (QR (Xl trivial))) ⟨rfl, rfl, rfl, rfl, rfl, (XE (Qv (fun _ => rfl) (fun _ => rfl)) rfl i), rfl, rfl, (Qv (fun _ => rfl) (fun _ => rfl)), rfl, rfl, rfl, trivial⟩
   change AU _ _ _ _ _ _ _ _
   refine Qf [0, 8] (by kernel_rfl) rfl ⟨.inl (Qx rfl ?_), .inl (Qx rfl ?_), trivial⟩
   ·
    refine zl ?_
    change AU _ _ _ _ _ _ _ _
    refine yL 8 ?_; refine yP 9 rfl (Qc (hJ i j a b w hia hjb hw) rfl rfl rfl) ?_; refine yM 10 ?_; refine yX 11 ?_; refine yX 12 ?_
    refine yS 14 ?_; refine yA 15 ?_; refine yD ?_
    exact Qa rfl (QR (QR (Xl trivial))) ⟨rfl, rfl, rfl, rfl, rfl, (XE (Qv (fun _ => rfl) (fun _ => rfl)) rfl i), rfl, rfl, (Qv (fun _ => rfl) (fun _ => rfl)), rfl, rfl, rfl, trivial⟩
   refine zl ?_
   change AU _ _ _ _ _ _ _ _
   refine yL 0 ?_; refine yP 9 rfl (Qc (hJ i j a b w hia hjb hw) rfl rfl rfl) ?_; refine yM 10 ?_; refine yX 11 ?_; refine yX 12 ?_
   refine yS 14 ?_; refine yA 15 ?_; refine yD ?_
   exact Qa rfl (QR (QR (Xl trivial))) ⟨rfl, rfl, rfl, rfl, rfl, (XE (Qv (fun _ => rfl) (fun _ => rfl)) rfl i), rfl, rfl, (Qv (fun _ => rfl) (fun _ => rfl)), rfl, rfl, rfl, trivial⟩
  ·
   refine zl ?_
   change AU _ _ _ _ _ _ _ _
   refine Qf [0, 4, 13] (by kernel_rfl) rfl ⟨.inl (Qx rfl ?_), .inl (Qx rfl ?_), .inr (.inr (Jz hN rfl rfl rfl rfl rfl rfl rfl ?_)), trivial⟩
   ·
    refine zl ?_
    change AU _ _ _ _ _ _ _ _
    refine Qf [4, 13] (by kernel_rfl) rfl ⟨.inl (Qx rfl ?_), .inr (.inr (Jz hN rfl rfl rfl rfl rfl rfl rfl ?_)), trivial⟩
    ·
     refine zl ?_
     change AU _ _ _ _ _ _ _ _
     refine Qf [9, 13] (by kernel_rfl) rfl ⟨.inl (Qx rfl ?_), .inr (.inr (Jz hN rfl rfl rfl rfl rfl rfl rfl ?_)), trivial⟩
     ·
      refine zp (Qc (hJ i j a b w hia hjb hw) rfl rfl rfl) ?_
      change AU _ _ _ _ _ _ _ _
      refine yM 10 ?_; refine yX 11 ?_; refine yX 12 ?_
      refine Qf [13] (by kernel_rfl) rfl ⟨.inr (.inr (Jz hN rfl rfl rfl rfl rfl rfl rfl ?_)), trivial⟩
      change AU _ _ _ _ _ _ _ _
      refine yS 14 ?_; refine yA 15 ?_; refine yD ?_
      exact Qa rfl (QR (QR (Xl trivial))) ⟨rfl, rfl, rfl, rfl, rfl, (XE (Qv (fun _ => rfl) (fun _ => rfl)) rfl i), rfl, rfl, (Qv (fun _ => rfl) (fun _ => rfl)), rfl, rfl, rfl, trivial⟩
     change AU _ _ _ _ _ _ _ _
     refine yP 9 rfl (Qc (hJ i j a b w hia hjb hw) rfl rfl rfl) ?_; refine yM 10 ?_; refine yX 11 ?_; refine yX 12 ?_; refine yS 14 ?_
     refine yA 15 ?_; refine yD ?_
     exact Qa rfl (QR (QR (Xl trivial))) ⟨rfl, rfl, rfl, rfl, rfl, (XE (Qv (fun _ => rfl) (fun _ => rfl)) rfl i), rfl, rfl, (Qv (fun _ => rfl) (fun _ => rfl)), rfl, rfl, rfl, trivial⟩
    change AU _ _ _ _ _ _ _ _
    refine yL 4 ?_; refine yP 9 rfl (Qc (hJ i j a b w hia hjb hw) rfl rfl rfl) ?_; refine yM 10 ?_; refine yX 11 ?_; refine yX 12 ?_
    refine yS 14 ?_; refine yA 15 ?_; refine yD ?_
    exact Qa rfl (QR (QR (Xl trivial))) ⟨rfl, rfl, rfl, rfl, rfl, (XE (Qv (fun _ => rfl) (fun _ => rfl)) rfl i), rfl, rfl, (Qv (fun _ => rfl) (fun _ => rfl)), rfl, rfl, rfl, trivial⟩
   ·
    refine zl ?_
    change AU _ _ _ _ _ _ _ _
    refine Qf [0, 13] (by kernel_rfl) rfl ⟨.inl (Qx rfl ?_), .inr (.inr (Jz hN rfl rfl rfl rfl rfl rfl rfl ?_)), trivial⟩
    ·
     refine zl ?_
     change AU _ _ _ _ _ _ _ _
     refine Qf [9, 13] (by kernel_rfl) rfl ⟨.inl (Qx rfl ?_), .inr (.inr (Jz hN rfl rfl rfl rfl rfl rfl rfl ?_)), trivial⟩
     ·
      refine zp (Qc (hJ i j a b w hia hjb hw) rfl rfl rfl) ?_
      change AU _ _ _ _ _ _ _ _
      refine yM 10 ?_; refine yX 11 ?_; refine yX 12 ?_
      refine Qf [13] (by kernel_rfl) rfl ⟨.inr (.inr (Jz hN rfl rfl rfl rfl rfl rfl rfl ?_)), trivial⟩
      change AU _ _ _ _ _ _ _ _
      refine yS 14 ?_; refine yA 15 ?_; refine yD ?_
      exact Qa rfl (QR (QR (Xl trivial))) ⟨rfl, rfl, rfl, rfl, rfl, (XE (Qv (fun _ => rfl) (fun _ => rfl)) rfl i), rfl, rfl, (Qv (fun _ => rfl) (fun _ => rfl)), rfl, rfl, rfl, trivial⟩
     change AU _ _ _ _ _ _ _ _
     refine yP 9 rfl (Qc (hJ i j a b w hia hjb hw) rfl rfl rfl) ?_; refine yM 10 ?_; refine yX 11 ?_; refine yX 12 ?_; refine yS 14 ?_
     refine yA 15 ?_; refine yD ?_
     exact Qa rfl (QR (QR (Xl trivial))) ⟨rfl, rfl, rfl, rfl, rfl, (XE (Qv (fun _ => rfl) (fun _ => rfl)) rfl i), rfl, rfl, (Qv (fun _ => rfl) (fun _ => rfl)), rfl, rfl, rfl, trivial⟩
    change AU _ _ _ _ _ _ _ _
    refine yL 0 ?_; refine yP 9 rfl (Qc (hJ i j a b w hia hjb hw) rfl rfl rfl) ?_; refine yM 10 ?_; refine yX 11 ?_; refine yX 12 ?_
    refine yS 14 ?_; refine yA 15 ?_; refine yD ?_
    exact Qa rfl (QR (QR (Xl trivial))) ⟨rfl, rfl, rfl, rfl, rfl, (XE (Qv (fun _ => rfl) (fun _ => rfl)) rfl i), rfl, rfl, (Qv (fun _ => rfl) (fun _ => rfl)), rfl, rfl, rfl, trivial⟩
   change AU _ _ _ _ _ _ _ _
   refine Qf [0, 4] (by kernel_rfl) rfl ⟨.inl (Qx rfl ?_), .inl (Qx rfl ?_), trivial⟩
   ·
    refine zl ?_
    change AU _ _ _ _ _ _ _ _
    refine yL 4 ?_; refine yP 9 rfl (Qc (hJ i j a b w hia hjb hw) rfl rfl rfl) ?_; refine yM 10 ?_; refine yX 11 ?_; refine yX 12 ?_
    refine yS 14 ?_; refine yA 15 ?_; refine yD ?_
    exact Qa rfl (QR (QR (Xl trivial))) ⟨rfl, rfl, rfl, rfl, rfl, (XE (Qv (fun _ => rfl) (fun _ => rfl)) rfl i), rfl, rfl, (Qv (fun _ => rfl) (fun _ => rfl)), rfl, rfl, rfl, trivial⟩
   refine zl ?_
   change AU _ _ _ _ _ _ _ _
   refine yL 0 ?_; refine yP 9 rfl (Qc (hJ i j a b w hia hjb hw) rfl rfl rfl) ?_; refine yM 10 ?_; refine yX 11 ?_; refine yX 12 ?_
   refine yS 14 ?_; refine yA 15 ?_; refine yD ?_
   exact Qa rfl (QR (QR (Xl trivial))) ⟨rfl, rfl, rfl, rfl, rfl, (XE (Qv (fun _ => rfl) (fun _ => rfl)) rfl i), rfl, rfl, (Qv (fun _ => rfl) (fun _ => rfl)), rfl, rfl, rfl, trivial⟩
  change AU _ _ _ _ _ _ _ _
  refine Qf [0, 4, 8] (by kernel_rfl) rfl ⟨.inl (Qx rfl ?_), .inl (Qx rfl ?_), .inl (Qx rfl ?_), trivial⟩
  ·
   refine zl ?_
   change AU _ _ _ _ _ _ _ _
   refine Qf [4, 8] (by kernel_rfl) rfl ⟨.inl (Qx rfl ?_), .inl (Qx rfl ?_), trivial⟩
   ·
    refine zl ?_
    change AU _ _ _ _ _ _ _ _
    refine yL 8 ?_; refine yP 9 rfl (Qc (hJ i j a b w hia hjb hw) rfl rfl rfl) ?_; refine yM 10 ?_; refine yX 11 ?_; refine yX 12 ?_
    refine yS 14 ?_; refine yA 15 ?_; refine yD ?_
    exact Qa rfl (QR (QR (Xl trivial))) ⟨rfl, rfl, rfl, rfl, rfl, (XE (Qv (fun _ => rfl) (fun _ => rfl)) rfl i), rfl, rfl, (Qv (fun _ => rfl) (fun _ => rfl)), rfl, rfl, rfl, trivial⟩
   refine zl ?_
   change AU _ _ _ _ _ _ _ _
   refine yL 4 ?_; refine yP 9 rfl (Qc (hJ i j a b w hia hjb hw) rfl rfl rfl) ?_; refine yM 10 ?_; refine yX 11 ?_; refine yX 12 ?_
   refine yS 14 ?_; refine yA 15 ?_; refine yD ?_
   exact Qa rfl (QR (QR (Xl trivial))) ⟨rfl, rfl, rfl, rfl, rfl, (XE (Qv (fun _ => rfl) (fun _ => rfl)) rfl i), rfl, rfl, (Qv (fun _ => rfl) (fun _ => rfl)), rfl, rfl, rfl, trivial⟩
  ·
   refine zl ?_
   change AU _ _ _ _ _ _ _ _
   refine Qf [0, 8] (by kernel_rfl) rfl ⟨.inl (Qx rfl ?_), .inl (Qx rfl ?_), trivial⟩
   ·
    refine zl ?_
    change AU _ _ _ _ _ _ _ _
    refine yL 8 ?_; refine yP 9 rfl (Qc (hJ i j a b w hia hjb hw) rfl rfl rfl) ?_; refine yM 10 ?_; refine yX 11 ?_; refine yX 12 ?_
    refine yS 14 ?_; refine yA 15 ?_; refine yD ?_
    exact Qa rfl (QR (QR (Xl trivial))) ⟨rfl, rfl, rfl, rfl, rfl, (XE (Qv (fun _ => rfl) (fun _ => rfl)) rfl i), rfl, rfl, (Qv (fun _ => rfl) (fun _ => rfl)), rfl, rfl, rfl, trivial⟩
   refine zl ?_
   change AU _ _ _ _ _ _ _ _
   refine yL 0 ?_; refine yP 9 rfl (Qc (hJ i j a b w hia hjb hw) rfl rfl rfl) ?_; refine yM 10 ?_; refine yX 11 ?_; refine yX 12 ?_
   refine yS 14 ?_; refine yA 15 ?_; refine yD ?_
   exact Qa rfl (QR (QR (Xl trivial))) ⟨rfl, rfl, rfl, rfl, rfl, (XE (Qv (fun _ => rfl) (fun _ => rfl)) rfl i), rfl, rfl, (Qv (fun _ => rfl) (fun _ => rfl)), rfl, rfl, rfl, trivial⟩
  refine zl ?_
  change AU _ _ _ _ _ _ _ _
  refine Qf [0, 4] (by kernel_rfl) rfl ⟨.inl (Qx rfl ?_), .inl (Qx rfl ?_), trivial⟩
  ·
   refine zl ?_
   change AU _ _ _ _ _ _ _ _
   refine yL 4 ?_; refine yP 9 rfl (Qc (hJ i j a b w hia hjb hw) rfl rfl rfl) ?_; refine yM 10 ?_; refine yX 11 ?_; refine yX 12 ?_
   refine yS 14 ?_; refine yA 15 ?_; refine yD ?_
   exact Qa rfl (QR (QR (Xl trivial))) ⟨rfl, rfl, rfl, rfl, rfl, (XE (Qv (fun _ => rfl) (fun _ => rfl)) rfl i), rfl, rfl, (Qv (fun _ => rfl) (fun _ => rfl)), rfl, rfl, rfl, trivial⟩
  refine zl ?_
  change AU _ _ _ _ _ _ _ _
  refine yL 0 ?_; refine yP 9 rfl (Qc (hJ i j a b w hia hjb hw) rfl rfl rfl) ?_; refine yM 10 ?_; refine yX 11 ?_; refine yX 12 ?_; refine yS 14 ?_
  refine yA 15 ?_; refine yD ?_
  exact Qa rfl (QR (QR (Xl trivial))) ⟨rfl, rfl, rfl, rfl, rfl, (XE (Qv (fun _ => rfl) (fun _ => rfl)) rfl i), rfl, rfl, (Qv (fun _ => rfl) (fun _ => rfl)), rfl, rfl, rfl, trivial⟩
 refine XJ ?_; refine QdE 13 rfl (by kernel_rfl) (by kernel_rfl) (fun _ _ h => h) ?_; refine yM 0 ?_; refine yM 1 ?_; refine yM 4 ?_
 refine yM 5 ?_
 refine Qf [2, 6] (by kernel_rfl) rfl ⟨.inl (Qx rfl ?_), .inl (Qx rfl ?_), trivial⟩
 ·
  refine zp (JL rfl rfl rfl rfl WP i rfl lti) ?_
  change AU _ _ _ _ _ _ _ _
  refine Qf [3, 6] (by kernel_rfl) rfl ⟨.inl (Qx rfl ?_), .inl (Qx rfl ?_), trivial⟩
  ·
   refine zp (JG rfl rfl rfl WP (Qcs (fun _ => rfl) (fun _ => rfl) rfl) i rfl (Qcj lti) (fun _ => rfl) rfl) ?_
   change AU _ _ _ _ _ _ _ _
   refine yL 6 ?_; refine yP 7 rfl (Qc (Wh l (f i j) w hw hs (by omega)) rfl rfl rfl) ?_; refine yM 8 ?_; refine yX 9 ?_; refine yX 10 ?_
   refine yP 11 rfl (JL rfl rfl rfl rfl XC.symm j rfl ltj) ?_
   refine Qf [12] (by kernel_rfl) rfl ⟨.inr (.inl (KC rfl rfl rfl rfl XC.symm j rfl (by rw [XC]; exact ltj) rfl rfl rfl rfl (WE (fun _ => rfl) (fun _ => rfl)) rfl rfl rfl rfl ?_)), trivial⟩
   change AU _ _ _ _ _ _ _ _
   refine yD ?_; change J5 _ _ _ _  _; refine QC ?_; refine Qb ?_
   exact ⟨⟨j + 1, ltj, trivial⟩, Qa rfl (QR (Xl ⟨(QE (by dsimp only; omega)), rfl, trivial⟩)) ⟨rfl, rfl, rfl, rfl, rfl, (XE (Qv (fun _ => rfl) (fun _ => rfl)) rfl i), (Yl (by first | exact YD ltj | rw [← YD ltj]; rfl)), rfl, (Qv (fun _ => rfl) (fun _ => rfl)), trivial⟩, by dsimp only; omega⟩
  refine zl ?_
  change AU _ _ _ _ _ _ _ _
  refine Qf [3, 7] (by kernel_rfl) rfl ⟨.inl (Qx rfl ?_), .inl (Qx rfl ?_), trivial⟩
  ·
   refine zp (JG rfl rfl rfl WP (Qcs (fun _ => rfl) (fun _ => rfl) rfl) i rfl (Qcj lti) (fun _ => rfl) rfl) ?_
   change AU _ _ _ _ _ _ _ _
   refine yP 7 rfl (Qc (Wh l (f i j) w hw hs (by omega)) rfl rfl rfl) ?_; refine yM 8 ?_; refine yX 9 ?_; refine yX 10 ?_
   refine yP 11 rfl (JL rfl rfl rfl rfl XC.symm j rfl ltj) ?_
   refine Qf [12] (by kernel_rfl) rfl ⟨.inr (.inl (KC rfl rfl rfl rfl XC.symm j rfl (by rw [XC]; exact ltj) rfl rfl rfl rfl (WE (fun _ => rfl) (fun _ => rfl)) rfl rfl rfl rfl ?_)), trivial⟩
   change AU _ _ _ _ _ _ _ _
   refine yD ?_; change J5 _ _ _ _  _; refine QC ?_; refine Qb ?_
   exact ⟨⟨j + 1, ltj, trivial⟩, Qa rfl (QR (Xl ⟨(QE (by dsimp only; omega)), rfl, trivial⟩)) ⟨rfl, rfl, rfl, rfl, rfl, (XE (Qv (fun _ => rfl) (fun _ => rfl)) rfl i), (Yl (by first | exact YD ltj | rw [← YD ltj]; rfl)), rfl, (Qv (fun _ => rfl) (fun _ => rfl)), trivial⟩, by dsimp only; omega⟩
  refine zp (Qc (Wh l (f i j) w hw hs (by omega)) rfl rfl rfl) ?_
  change AU _ _ _ _ _ _ _ _
  refine yM 8 ?_; refine yX 9 ?_; refine yX 10 ?_
  refine yP 3 rfl (JG rfl rfl rfl WP (Qcs (fun _ => rfl) (fun _ => rfl) rfl) i rfl (Qcj lti) (fun _ => rfl) rfl) ?_
  refine yP 11 rfl (JL rfl rfl rfl rfl XC.symm j rfl ltj) ?_
  refine Qf [12] (by kernel_rfl) rfl ⟨.inr (.inl (KC rfl rfl rfl rfl XC.symm j rfl (by rw [XC]; exact ltj) rfl rfl rfl rfl (WE (fun _ => rfl) (fun _ => rfl)) rfl rfl rfl rfl ?_)), trivial⟩
  change AU _ _ _ _ _ _ _ _
  refine yD ?_; change J5 _ _ _ _  _; refine QC ?_; refine Qb ?_
  exact ⟨⟨j + 1, ltj, trivial⟩, Qa rfl (QR (Xl ⟨(QE (by dsimp only; omega)), rfl, trivial⟩)) ⟨rfl, rfl, rfl, rfl, rfl, (XE (Qv (fun _ => rfl) (fun _ => rfl)) rfl i), (Yl (by first | exact YD ltj | rw [← YD ltj]; rfl)), rfl, (Qv (fun _ => rfl) (fun _ => rfl)), trivial⟩, by dsimp only; omega⟩
 refine zl ?_
 change AU _ _ _ _ _ _ _ _
 refine Qf [2, 7] (by kernel_rfl) rfl ⟨.inl (Qx rfl ?_), .inl (Qx rfl ?_), trivial⟩
 ·
  refine zp (JL rfl rfl rfl rfl WP i rfl lti) ?_
  change AU _ _ _ _ _ _ _ _
  refine Qf [3, 7] (by kernel_rfl) rfl ⟨.inl (Qx rfl ?_), .inl (Qx rfl ?_), trivial⟩
  ·
   refine zp (JG rfl rfl rfl WP (Qcs (fun _ => rfl) (fun _ => rfl) rfl) i rfl (Qcj lti) (fun _ => rfl) rfl) ?_
   change AU _ _ _ _ _ _ _ _
   refine yP 7 rfl (Qc (Wh l (f i j) w hw hs (by omega)) rfl rfl rfl) ?_; refine yM 8 ?_; refine yX 9 ?_; refine yX 10 ?_
   refine yP 11 rfl (JL rfl rfl rfl rfl XC.symm j rfl ltj) ?_
   refine Qf [12] (by kernel_rfl) rfl ⟨.inr (.inl (KC rfl rfl rfl rfl XC.symm j rfl (by rw [XC]; exact ltj) rfl rfl rfl rfl (WE (fun _ => rfl) (fun _ => rfl)) rfl rfl rfl rfl ?_)), trivial⟩
   change AU _ _ _ _ _ _ _ _
   refine yD ?_; change J5 _ _ _ _  _; refine QC ?_; refine Qb ?_
   exact ⟨⟨j + 1, ltj, trivial⟩, Qa rfl (QR (Xl ⟨(QE (by dsimp only; omega)), rfl, trivial⟩)) ⟨rfl, rfl, rfl, rfl, rfl, (XE (Qv (fun _ => rfl) (fun _ => rfl)) rfl i), (Yl (by first | exact YD ltj | rw [← YD ltj]; rfl)), rfl, (Qv (fun _ => rfl) (fun _ => rfl)), trivial⟩, by dsimp only; omega⟩
  refine zp (Qc (Wh l (f i j) w hw hs (by omega)) rfl rfl rfl) ?_
  change AU _ _ _ _ _ _ _ _
  refine yM 8 ?_; refine yX 9 ?_; refine yX 10 ?_
  refine yP 3 rfl (JG rfl rfl rfl WP (Qcs (fun _ => rfl) (fun _ => rfl) rfl) i rfl (Qcj lti) (fun _ => rfl) rfl) ?_
  refine yP 11 rfl (JL rfl rfl rfl rfl XC.symm j rfl ltj) ?_
  refine Qf [12] (by kernel_rfl) rfl ⟨.inr (.inl (KC rfl rfl rfl rfl XC.symm j rfl (by rw [XC]; exact ltj) rfl rfl rfl rfl (WE (fun _ => rfl) (fun _ => rfl)) rfl rfl rfl rfl ?_)), trivial⟩
  change AU _ _ _ _ _ _ _ _
  refine yD ?_; change J5 _ _ _ _  _; refine QC ?_; refine Qb ?_
  exact ⟨⟨j + 1, ltj, trivial⟩, Qa rfl (QR (Xl ⟨(QE (by dsimp only; omega)), rfl, trivial⟩)) ⟨rfl, rfl, rfl, rfl, rfl, (XE (Qv (fun _ => rfl) (fun _ => rfl)) rfl i), (Yl (by first | exact YD ltj | rw [← YD ltj]; rfl)), rfl, (Qv (fun _ => rfl) (fun _ => rfl)), trivial⟩, by dsimp only; omega⟩
 refine zp (Qc (Wh l (f i j) w hw hs (by omega)) rfl rfl rfl) ?_
 change AU _ _ _ _ _ _ _ _
 refine yM 8 ?_; refine yX 9 ?_; refine yX 10 ?_; refine yP 2 rfl (JL rfl rfl rfl rfl WP i rfl lti) ?_
 refine yP 3 rfl (JG rfl rfl rfl WP (Qcs (fun _ => rfl) (fun _ => rfl) rfl) i rfl (Qcj lti) (fun _ => rfl) rfl) ?_
 refine yP 11 rfl (JL rfl rfl rfl rfl XC.symm j rfl ltj) ?_
 refine Qf [12] (by kernel_rfl) rfl ⟨.inr (.inl (KC rfl rfl rfl rfl XC.symm j rfl (by rw [XC]; exact ltj) rfl rfl rfl rfl (WE (fun _ => rfl) (fun _ => rfl)) rfl rfl rfl rfl ?_)), trivial⟩
 change AU _ _ _ _ _ _ _ _
 refine yD ?_; change J5 _ _ _ _  _; refine QC ?_; refine Qb ?_
 exact ⟨⟨j + 1, ltj, trivial⟩, Qa rfl (QR (Xl ⟨(QE (by dsimp only; omega)), rfl, trivial⟩)) ⟨rfl, rfl, rfl, rfl, rfl, (XE (Qv (fun _ => rfl) (fun _ => rfl)) rfl i), (Yl (by first | exact YD ltj | rw [← YD ltj]; rfl)), rfl, (Qv (fun _ => rfl) (fun _ => rfl)), trivial⟩, by dsimp only; omega⟩
theorem Qqo : FC Tryz.prog 23 [.agg (QF dl)] (.tup [Xr (XD 4 dia), i64 0]) := QkI dl dv 4 dia rfl (by decide) Qcu.lt Qfb Qi8 (fun i j a b w ha hb hw => Qrd ha hb hw)
theorem QpD (k : Nat) (v : Qn) (hk : dv[k]? = some v) : FC Tryz.prog 15 [.agg (QF dl), .agg (Xm v)] (.tup [i64 (k : Nat), i64 0]) := Qpt dl dv Qfb Qi8 (by decide) k v hk
end Go.Proofs.YtaecccdkjmipeaaGreat
