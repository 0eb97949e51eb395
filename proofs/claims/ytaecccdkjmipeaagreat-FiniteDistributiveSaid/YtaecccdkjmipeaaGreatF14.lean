/-
  Contracts: finite.maps (seat r5).
-/
import Derived.Test.YtaecccdkjmipeaaGreatF13
import Derived.Test.YtaecccdkjmipeaaGreatA10
namespace Go.Proofs.YtaecccdkjmipeaaGreat
set_option maxRecDepth 100000
set_option maxHeartbeats 1000000
open Go.RowKit
def Qtj (key : Nm) (v q : Qn) : Qn := .mk 0 (v.nm ++ [key]) (v.ps ++ [q]) []
def Qst (key : Nm) (L : List Qn) (v : Qn) : List Qn := v :: L.map (Qtj key v)
def Qey (key : Nm) (out L : List Qn) : List Qn := out.flatMap (Qst key L)
def Q8 (names : List Nm) (L : List Qn) : List Qn := names.foldl (fun out key => Qey key out L) [Qn.zero]
def Qbg (key : Nm) (out L : List Qn) (k : Nat) : List Qn := (out.take k).flatMap (Qst key L)
def Wj (key : Nm) (out L : List Qn) (k : Nat) (v : Qn) (j : Nat) : List Qn := Qbg key out L k ++ v :: (L.take j).map (Qtj key v)
theorem QD {key : Nm} {out L : List Qn} {k j : Nat} {v q : Qn} (hj : L[j]? = some q) : Wj key out L k v (j + 1) = Wj key out L k v j ++ [Qtj key v q] := by
 unfold Wj
 rw [List.take_add_one, hj, List.map_append, List.append_assoc]; rfl
theorem QaT {key : Nm} {out L : List Qn} {k j : Nat} {v : Qn} (hk : out[k]? = some v) (hj : L.length ≤ j) : Wj key out L k v j = Qbg key out L (k + 1) := by
 unfold Wj Qbg
 rw [List.take_of_length_le hj, List.take_add_one, hk, List.flatMap_append]
 simp [Qst]
theorem Qdk {key : Nm} {out L : List Qn} {k : Nat} (hk : out.length ≤ k) : Qbg key out L k = Qey key out L := by
 unfold Qbg
 rw [List.take_of_length_le hk]; rfl
theorem Wk {names : List Nm} {L : List Qn} {i : Nat} {key : Nm} (h : names[i]? = some key) : Q8 (names.take (i + 1)) L = Qey key (Q8 (names.take i) L) L := by
 unfold Q8
 rw [List.take_add_one, h, List.foldl_append]; rfl
theorem Qfw (key : Nm) (L : List Qn) : ∀ l : List Qn, (l.flatMap (Qst key L)).length = l.length * (L.length + 1)
 | [] => by simp
 | v :: l => by rw [List.flatMap_cons, List.length_append, Qfw key L l, List.length_cons, Nat.add_mul]; simp [Qst]; omega
theorem QfL {key : Nm} {out L : List Qn} {k : Nat} (hk : k ≤ out.length) : (Qbg key out L k).length = k * (L.length + 1) := by
 unfold Qbg
 rw [Qfw, List.length_take, Nat.min_eq_left hk]
theorem Qcv {key : Nm} {out L : List Qn} {k j : Nat} {v : Qn} (hk : k ≤ out.length) (hj : j ≤ L.length) : (Wj key out L k v j).length = k * (L.length + 1) + 1 + j := by
 unfold Wj
 rw [List.length_append, QfL hk]; simp; omega
theorem Qfd {key : Nm} {out L : List Qn} : (Qey key out L).length = out.length * (L.length + 1) := Qfw key L out
theorem Ql6 {L : List Qn} : ∀ (names : List Nm) (v : Qn), v ∈ Q8 names L → v.nm.length ≤ names.length ∧ v.ps.length ≤ names.length := by
 have key : ∀ (names : List Nm) (out : List Qn) (b : Nat), (∀ v ∈ out, v.nm.length ≤ b ∧ v.ps.length ≤ b) → ∀ v ∈ names.foldl (fun out key => Qey key out L) out, v.nm.length ≤ b + names.length ∧ v.ps.length ≤ b + names.length := by
  intro names
  induction names with
  | nil => intro out b h v hv; exact h v hv
  | cons k names ih =>
   intro out b h v hv
   have := ih (Qey k out L) (b + 1) (fun x hx => by
    unfold Qey at hx
    obtain ⟨y, hy, hx⟩ := List.mem_flatMap.1 hx
    have hb := h y hy
    rcases List.mem_cons.1 hx with rfl | hx
    ·omega
    obtain ⟨q, -, rfl⟩ := List.mem_map.1 hx
    show (y.nm ++ [k]).length ≤ b + 1 ∧ (y.ps ++ [q]).length ≤ b + 1
    simp; omega) v hv
   rw [List.length_cons]; omega
 intro names v hv
 have := key names [Qn.zero] 0 (fun v hv => by simp at hv; subst hv; exact ⟨Nat.le_refl _, Nat.le_refl _⟩) v hv
 omega
theorem Jl (key : Nm) (v q : Qn) : Qg 4 1 [i64 0, .sl (v.nm.map WS ++ [[sv key]]) none, .sl (v.ps.map Xx ++ Qg 4 1 (Xm q)) none, .sl [] none] = [Xx (Qtj key v q)] := by
 rw [X3]
 show [[i64 0, AV.sl (v.nm.map WS ++ [[sv key]]) none, AV.sl (v.ps.map Xx ++ [Xm q]) none, AV.sl [] none]] = [[i64 0, AV.sl ((v.nm ++ [key]).map WS) none, AV.sl ((v.ps ++ [q]).map Xx) none, ens []]]
 simp only [List.map_append, List.map_cons, List.map_nil, X3 q]; rfl
theorem QoC {L : List Qn} : some (AV.sl (Qg 4 1 [i64 0, .sl [] none, .sl [] none, .sl [] none]) none) = some (JM (Q8 [] L)) := by
 show some (AV.sl [Xm Qn.zero] none) = some (AV.sl [Xx Qn.zero] none)
 rw [X3]
theorem Qt8 (names : List Nm) (L : List Qn) (h0 : 0 < names.length) (h64 : names.length ≤ 64) (hL : L.length ≤ 256) (h256 : ∀ i, i ≤ names.length → (Q8 (names.take i) L).length ≤ 256) : GV 77 [XU names, JM L] (Q8 names L) 0 1 := by
 refine JC [4, 5] Tryz.func77 rfl rfl 62 Tryz.ntmps77 (Nat.le_of_ble_eq_true rfl) ?_
 intro E hN
 refine JK 0 rfl (fun hl0 => ?_)
 refine XJ ?_; refine zP (Qj rfl rfl rfl rfl (by exact rfl) (by decide) (by decide)) ?_; refine XN ?_
 refine Qi (fun x : {i : Nat // i < names.length} ⊕ Unit => match x with | .inl x => ⟨[(1, JM L), (16, XU names), (17, i64 names.length), (18, i64 (x.1 : Nat)), (6, JM (Q8 (names.take x.1) L))], [], 0⟩ | .inr _ => ⟨[(1, JM L), (16, XU names), (17, i64 names.length), (18, i64 names.length), (6, .own 0 (Q8 names L).length)], [(0, .arr 30 4 ((Q8 names L).map Xx))], 1⟩) (fun x => match x with | .inl x => names.length - x.1 | .inr _ => 0) (Sum.inl ⟨0, h0⟩) ?_ ?_
 ·
  exact Qa rfl (Jg ⟨(QE (by simp)), rfl, rfl, rfl, QoC, rfl, trivial⟩) trivial
 rintro (⟨i, hi⟩ | ⟨⟩)
 ·
  skip
  refine QA ?_
  refine zq ?_ ?_ <;> intro h11
  rotate_left
  ·
   exfalso; simp at h11; omega
  obtain ⟨key, hik⟩ := Qk hi
  have h2i := h256 (i + 1) (by omega)
  rw [Wk hik, Qfd] at h2i
  refine QA ?_; refine zP (Qh rfl rfl rfl i rfl _ (Qq hik) rfl) ?_; refine Qeo ?_; refine Qu (Yu rfl 9 30 4 rfl) ?_
  refine Qi (fun x : {k : Nat // k ≤ (Q8 (names.take i) L).length ∧ True} => ⟨[(1, JM L), (16, XU names), (17, i64 names.length), (18, i64 (i : Nat)), (8, sv key), (22, JM (Q8 (names.take i) L)), (23, i64 (Q8 (names.take i) L).length), (24, i64 (x.1 : Nat)), (9, .own 0 (Qbg key (Q8 (names.take i) L) L x.1).length)], [(0, .arr 30 4 ((Qbg key (Q8 (names.take i) L) L x.1).map Xx))], 1⟩) (fun x => (Q8 (names.take i) L).length - x.1) (⟨0, Nat.zero_le _, by trivial⟩) ?_ ?_
  ·
   exact Qa rfl (QR (Jg ⟨(QE (by simp)), rfl, (Jg trivial)⟩)) ⟨rfl, rfl, (Qw _), trivial⟩
  rintro ⟨k, hk, gk⟩
  dsimp only
  refine QA ?_
  refine zq ?_ ?_ <;> intro h24
  rotate_left
  ·
   have gek : (Q8 (names.take i) L).length ≤ k := by simpa using h24
   refine XJ ?_; refine Qb ?_
   by_cases hlast : i + 1 < names.length
   ·exact ⟨.inl ⟨i + 1, hlast⟩, WM.trans (QB 6 0 rfl rfl (by simp) (QS _) (Qp _) rfl) (Qa rfl (Xl ⟨(QE (by dsimp only; omega)), rfl, (Qtt (by rw [Qdk gek, Wk hik])), rfl, trivial⟩) trivial), by dsimp only; omega⟩
   have hpe : Qbg key (Q8 (names.take i) L) L k = Q8 names L := by
    rw [Qdk gek, ← Wk hik, List.take_of_length_le (by omega)]
   exact ⟨.inr (), Qa rfl (Xl ⟨(QE (by omega)), rfl, (Kq (by rw [hpe])), rfl, trivial⟩) ⟨(Yl (by rw [hpe])), rfl, (Qw _), trivial⟩, by show 0 < names.length - i; omega⟩
  have ltk : k < (Q8 (names.take i) L).length := by simpa using h24
  obtain ⟨v, hkv⟩ := Qk ltk
  have hvp := Ql6 _ v (List.mem_of_getElem? hkv)
  rw [List.length_take] at hvp
  have hkm := Nat.mul_le_mul_right (L.length + 1) (show k + 1 ≤ (Q8 (names.take i) L).length from ltk)
  rw [Nat.add_mul, Nat.one_mul] at hkm
  have hc256 : (Q8 (names.take i) L).length ≤ 256 := Nat.le_trans (Nat.le_mul_of_pos_right _ (Nat.succ_pos _)) h2i
  refine QA ?_; refine zP (Qh rfl rfl rfl k rfl _ (Xk hkv) rfl) ?_; refine QA ?_; refine Qu (J2 11 1 rfl rfl rfl rfl) ?_
  refine QC ?_; refine zP (Qj rfl rfl rfl rfl (by exact rfl) (by decide) (by decide)) ?_
  refine Xb hN rfl rfl rfl (by simp) rfl rfl (by rfl) (by rw [List.length_map, QfL (by omega)]; have := Nat.mul_le_mul_right (L.length + 1) (show k ≤ (Q8 (names.take i) L).length by omega); simp [Qg]; omega) rfl rfl rfl rfl ?_
  refine XN ?_
  refine Qi (fun x : {j : Nat // j ≤ L.length ∧ True} => ⟨[(1, JM L), (16, XU names), (17, i64 names.length), (18, i64 (i : Nat)), (8, sv key), (22, JM (Q8 (names.take i) L)), (23, i64 (Q8 (names.take i) L).length), (24, i64 (k : Nat)), (9, .own 0 (Wj key (Q8 (names.take i) L) L k v x.1).length), (11, .el (Xm v)), (32, JM L), (33, i64 L.length), (34, i64 (x.1 : Nat))], [(0, .arr 30 4 ((Wj key (Q8 (names.take i) L) L k v x.1).map Xx))], 2⟩) (fun x => L.length - x.1) (⟨0, Nat.zero_le _, by trivial⟩) ?_ ?_
  ·
   exact Qa rfl (QR (QR ⟨(Kq (by simp [Wj, Qg])), rfl, (Jg ⟨(QE (by simp)), rfl, (Xu trivial)⟩)⟩)) ⟨(Yl (by rw [Wj, List.map_append, List.take_zero, List.map_nil, List.map_cons, X3 v]; rfl)), rfl, (Qw _), trivial⟩
  rintro ⟨j, hj, gj⟩
  dsimp only
  refine QA ?_
  refine zq ?_ ?_ <;> intro h46
  rotate_left
  ·
   have gej : L.length ≤ j := by simpa using h46
   have hdl := Qcv (key := key) (out := (Q8 (names.take i) L)) (L := L) (v := v) (show k ≤ (Q8 (names.take i) L).length by omega) (show j ≤ L.length by omega)
   refine QJ ?_; refine zP (Yn rfl rfl (by rfl) (by simp)) ?_
   refine zP (Xc (b := false) rfl rfl rfl (by simp; omega)) ?_
   refine Je ?_; refine Qb ?_
   exact ⟨⟨k + 1, ltk, trivial⟩, Qa rfl (QR (Xl ⟨(QE (by dsimp only; omega)), rfl, (Kq (by rw [QaT hkv gej])), rfl, trivial⟩)) ⟨(Yl (by rw [QaT hkv gej])), rfl, (Qw _), trivial⟩, by dsimp only; omega⟩
  have ltj : j < L.length := by simpa using h46
  obtain ⟨q, hjq⟩ := Qk ltj
  have hdl := Qcv (key := key) (out := (Q8 (names.take i) L)) (L := L) (v := v) (show k ≤ (Q8 (names.take i) L).length by omega) (show j ≤ L.length by omega)
  refine QA ?_; refine zP (Qh rfl rfl rfl j rfl _ (Xk hjq) rfl) ?_; refine QJ ?_; refine Qu (J2 13 2 rfl rfl rfl rfl) ?_
  refine QdG hN 17 rfl (by kernel_rfl) (by kernel_rfl) (fun _ _ h => h) (fun E2 hN2 => ?_)
  refine Jo 0 rfl (by kernel_rfl) (by kernel_rfl) rfl ((Yf hN2 rfl rfl rfl rfl rfl rfl).wf) ?_
  refine Jo 1 rfl (by kernel_rfl) (by kernel_rfl) rfl ((Kd hN2 rfl rfl rfl rfl rfl rfl rfl rfl).wf) ?_
  refine Jo 2 rfl (by kernel_rfl) (by kernel_rfl) rfl (Qbn hN2 rfl rfl rfl rfl rfl rfl rfl rfl) ?_
  refine Jo 4 rfl (by kernel_rfl) (by kernel_rfl) rfl ((Yf hN2 rfl rfl rfl rfl rfl rfl).wf) ?_
  refine Jo 7 rfl (by kernel_rfl) (by kernel_rfl) rfl ((Kd hN2 rfl rfl rfl rfl rfl rfl rfl rfl).wf) ?_
  refine Jo 8 rfl (by kernel_rfl) (by kernel_rfl) rfl (Qbn hN2 rfl rfl rfl rfl rfl rfl rfl rfl) ?_
  refine Jo 10 rfl (by kernel_rfl) (by kernel_rfl) rfl (Qbn hN2 rfl rfl rfl rfl rfl rfl rfl rfl) ?_; refine Qgq ?_
  refine Qf [3, 5, 11] (by kernel_rfl) rfl ⟨.inr (.inr (Q1 hN2 rfl rfl (Kn v.nm (by omega)) (.fn _ _ _ _ rfl rfl) rfl rfl rfl rfl rfl ?_)), .inl (Qx rfl ?_), .inl (Qx rfl ?_), trivial⟩
  ·
   change AU _ _ _ _ _ _ _ _
   refine Qf [5, 11] (by kernel_rfl) rfl ⟨.inl (Qx rfl ?_), .inl (Qx rfl ?_), trivial⟩
   ·
    refine X1 hN2 (Qj rfl rfl rfl rfl (by exact rfl) (by decide) (by decide)) rfl rfl rfl rfl ?_
    change AU _ _ _ _ _ _ _ _
    refine Qf [6, 11] (by kernel_rfl) rfl ⟨.inr (.inr (Qe hN2 rfl rfl rfl rfl (by simp) rfl rfl (by rfl) (by simp [Qg]; omega) rfl rfl rfl rfl ?_)), .inl (Qx rfl ?_), trivial⟩
    ·
     change AU _ _ _ _ _ _ _ _
     refine Qf [9, 11] (by kernel_rfl) rfl ⟨.inr (.inr (Q1 hN2 rfl rfl (QZ v.ps (by omega)) (.fn _ _ _ _ rfl rfl) rfl rfl rfl rfl rfl ?_)), .inl (Qx rfl ?_), trivial⟩
     ·
      change AU _ _ _ _ _ _ _ _
      refine Qf [11] (by kernel_rfl) rfl ⟨.inl (Qx rfl ?_), trivial⟩
      refine X1 hN2 (Qj rfl rfl rfl rfl (by exact rfl) (by decide) (by decide)) rfl rfl rfl rfl ?_
      change AU _ _ _ _ _ _ _ _
      refine Qf [12] (by kernel_rfl) rfl ⟨.inr (.inr (Qe hN2 rfl rfl rfl rfl (by simp) rfl rfl (by rfl) (by simp [Qg]; omega) rfl rfl rfl rfl ?_)), trivial⟩
      change AU _ _ _ _ _ _ _ _
      refine Qf [13] (by kernel_rfl) rfl ⟨.inr (.inr (Xg hN2 rfl rfl rfl rfl rfl (XT 44 3 50 4 rfl rfl rfl rfl (by decide) (by decide) (by simp) (QV (XA (fun _ => rfl) _) (by rfl)) (Xn (JB (fun _ => rfl) _) (by intro e he; simp [Qg] at he; subst he; rfl)) (by simp) (QV (QS _) (by rfl)) (Xn (Qp _) (by intro e he; simp [Qg] at he; subst he; rfl)) rfl) (XB rfl rfl rfl) ?_)), trivial⟩
      change AU _ _ _ _ _ _ _ _
      refine Qf [14] (by kernel_rfl) rfl ⟨.inl (Qx rfl ?_), trivial⟩
      refine X1 hN2 (Qj rfl rfl rfl rfl (by exact rfl) (by decide) (by decide)) rfl rfl rfl rfl ?_
      change AU _ _ _ _ _ _ _ _
      refine Qf [15] (by kernel_rfl) rfl ⟨.inr (.inr (Qe hN2 rfl rfl rfl rfl (by simp) rfl rfl (by rfl) (by rw [List.length_map, hdl]; simp [Qg]; omega) rfl rfl rfl rfl ?_)), trivial⟩
      change AU _ _ _ _ _ _ _ _
      refine Xy 16 rfl (by kernel_rfl) (by kernel_rfl) rfl (Q9 hN2 rfl rfl rfl rfl rfl rfl) ?_; refine yD ?_; change J5 _ _ _ _  _
      refine QC ?_; refine Qb ?_
      exact ⟨⟨j + 1, ltj, trivial⟩, Qa rfl (QR (QR ⟨(Kq (by rw [QD hjq]; simp [Qg])), rfl, (Xl ⟨(QE (by dsimp only; omega)), rfl, trivial⟩)⟩)) ⟨(Yl (by rw [QD hjq, List.map_append, List.map_cons, List.map_nil, ← Jl]; rfl)), rfl, (Qw _), trivial⟩, by dsimp only; omega⟩
     refine X1 hN2 (Qj rfl rfl rfl rfl (by exact rfl) (by decide) (by decide)) rfl rfl rfl rfl ?_
     change AU _ _ _ _ _ _ _ _
     refine Qf [9] (by kernel_rfl) rfl ⟨.inr (.inr (Q1 hN2 rfl rfl (QZ v.ps (by omega)) (.fn _ _ _ _ rfl rfl) rfl rfl rfl rfl rfl ?_)), trivial⟩
     change AU _ _ _ _ _ _ _ _
     refine Qf [12] (by kernel_rfl) rfl ⟨.inr (.inr (Qe hN2 rfl rfl rfl rfl (by simp) rfl rfl (by rfl) (by simp [Qg]; omega) rfl rfl rfl rfl ?_)), trivial⟩
     change AU _ _ _ _ _ _ _ _
     refine Qf [13] (by kernel_rfl) rfl ⟨.inr (.inr (Xg hN2 rfl rfl rfl rfl rfl (XT 44 3 50 4 rfl rfl rfl rfl (by decide) (by decide) (by simp) (QV (XA (fun _ => rfl) _) (by rfl)) (Xn (JB (fun _ => rfl) _) (by intro e he; simp [Qg] at he; subst he; rfl)) (by simp) (QV (QS _) (by rfl)) (Xn (Qp _) (by intro e he; simp [Qg] at he; subst he; rfl)) rfl) (XB rfl rfl rfl) ?_)), trivial⟩
     change AU _ _ _ _ _ _ _ _
     refine Qf [14] (by kernel_rfl) rfl ⟨.inl (Qx rfl ?_), trivial⟩
     refine X1 hN2 (Qj rfl rfl rfl rfl (by exact rfl) (by decide) (by decide)) rfl rfl rfl rfl ?_
     change AU _ _ _ _ _ _ _ _
     refine Qf [15] (by kernel_rfl) rfl ⟨.inr (.inr (Qe hN2 rfl rfl rfl rfl (by simp) rfl rfl (by rfl) (by rw [List.length_map, hdl]; simp [Qg]; omega) rfl rfl rfl rfl ?_)), trivial⟩
     change AU _ _ _ _ _ _ _ _
     refine Xy 16 rfl (by kernel_rfl) (by kernel_rfl) rfl (Q9 hN2 rfl rfl rfl rfl rfl rfl) ?_; refine yD ?_; change J5 _ _ _ _  _
     refine QC ?_; refine Qb ?_
     exact ⟨⟨j + 1, ltj, trivial⟩, Qa rfl (QR (QR ⟨(Kq (by rw [QD hjq]; simp [Qg])), rfl, (Xl ⟨(QE (by dsimp only; omega)), rfl, trivial⟩)⟩)) ⟨(Yl (by rw [QD hjq, List.map_append, List.map_cons, List.map_nil, ← Jl]; rfl)), rfl, (Qw _), trivial⟩, by dsimp only; omega⟩
    refine X1 hN2 (Qj rfl rfl rfl rfl (by exact rfl) (by decide) (by decide)) rfl rfl rfl rfl ?_
    change AU _ _ _ _ _ _ _ _
    refine Qf [6] (by kernel_rfl) rfl ⟨.inr (.inr (Qe hN2 rfl rfl rfl rfl (by simp) rfl rfl (by rfl) (by simp [Qg]; omega) rfl rfl rfl rfl ?_)), trivial⟩
    change AU _ _ _ _ _ _ _ _
    refine Qf [9] (by kernel_rfl) rfl ⟨.inr (.inr (Q1 hN2 rfl rfl (QZ v.ps (by omega)) (.fn _ _ _ _ rfl rfl) rfl rfl rfl rfl rfl ?_)), trivial⟩
    change AU _ _ _ _ _ _ _ _
    refine Qf [12] (by kernel_rfl) rfl ⟨.inr (.inr (Qe hN2 rfl rfl rfl rfl (by simp) rfl rfl (by rfl) (by simp [Qg]; omega) rfl rfl rfl rfl ?_)), trivial⟩
    change AU _ _ _ _ _ _ _ _
    refine Qf [13] (by kernel_rfl) rfl ⟨.inr (.inr (Xg hN2 rfl rfl rfl rfl rfl (XT 44 3 50 4 rfl rfl rfl rfl (by decide) (by decide) (by simp) (QV (XA (fun _ => rfl) _) (by rfl)) (Xn (JB (fun _ => rfl) _) (by intro e he; simp [Qg] at he; subst he; rfl)) (by simp) (QV (QS _) (by rfl)) (Xn (Qp _) (by intro e he; simp [Qg] at he; subst he; rfl)) rfl) (XB rfl rfl rfl) ?_)), trivial⟩
    change AU _ _ _ _ _ _ _ _
    refine Qf [14] (by kernel_rfl) rfl ⟨.inl (Qx rfl ?_), trivial⟩
    refine X1 hN2 (Qj rfl rfl rfl rfl (by exact rfl) (by decide) (by decide)) rfl rfl rfl rfl ?_
    change AU _ _ _ _ _ _ _ _
    refine Qf [15] (by kernel_rfl) rfl ⟨.inr (.inr (Qe hN2 rfl rfl rfl rfl (by simp) rfl rfl (by rfl) (by rw [List.length_map, hdl]; simp [Qg]; omega) rfl rfl rfl rfl ?_)), trivial⟩
    change AU _ _ _ _ _ _ _ _
    refine Xy 16 rfl (by kernel_rfl) (by kernel_rfl) rfl (Q9 hN2 rfl rfl rfl rfl rfl rfl) ?_; refine yD ?_; change J5 _ _ _ _  _
    refine QC ?_; refine Qb ?_
    exact ⟨⟨j + 1, ltj, trivial⟩, Qa rfl (QR (QR ⟨(Kq (by rw [QD hjq]; simp [Qg])), rfl, (Xl ⟨(QE (by dsimp only; omega)), rfl, trivial⟩)⟩)) ⟨(Yl (by rw [QD hjq, List.map_append, List.map_cons, List.map_nil, ← Jl]; rfl)), rfl, (Qw _), trivial⟩, by dsimp only; omega⟩
   refine X1 hN2 (Qj rfl rfl rfl rfl (by exact rfl) (by decide) (by decide)) rfl rfl rfl rfl ?_
   change AU _ _ _ _ _ _ _ _
   refine Qf [5] (by kernel_rfl) rfl ⟨.inl (Qx rfl ?_), trivial⟩
   refine X1 hN2 (Qj rfl rfl rfl rfl (by exact rfl) (by decide) (by decide)) rfl rfl rfl rfl ?_
   change AU _ _ _ _ _ _ _ _
   refine Qf [6] (by kernel_rfl) rfl ⟨.inr (.inr (Qe hN2 rfl rfl rfl rfl (by simp) rfl rfl (by rfl) (by simp [Qg]; omega) rfl rfl rfl rfl ?_)), trivial⟩
   change AU _ _ _ _ _ _ _ _
   refine Qf [9] (by kernel_rfl) rfl ⟨.inr (.inr (Q1 hN2 rfl rfl (QZ v.ps (by omega)) (.fn _ _ _ _ rfl rfl) rfl rfl rfl rfl rfl ?_)), trivial⟩
   change AU _ _ _ _ _ _ _ _
   refine Qf [12] (by kernel_rfl) rfl ⟨.inr (.inr (Qe hN2 rfl rfl rfl rfl (by simp) rfl rfl (by rfl) (by simp [Qg]; omega) rfl rfl rfl rfl ?_)), trivial⟩
   change AU _ _ _ _ _ _ _ _
   refine Qf [13] (by kernel_rfl) rfl ⟨.inr (.inr (Xg hN2 rfl rfl rfl rfl rfl (XT 44 3 50 4 rfl rfl rfl rfl (by decide) (by decide) (by simp) (QV (XA (fun _ => rfl) _) (by rfl)) (Xn (JB (fun _ => rfl) _) (by intro e he; simp [Qg] at he; subst he; rfl)) (by simp) (QV (QS _) (by rfl)) (Xn (Qp _) (by intro e he; simp [Qg] at he; subst he; rfl)) rfl) (XB rfl rfl rfl) ?_)), trivial⟩
   change AU _ _ _ _ _ _ _ _
   refine Qf [14] (by kernel_rfl) rfl ⟨.inl (Qx rfl ?_), trivial⟩
   refine X1 hN2 (Qj rfl rfl rfl rfl (by exact rfl) (by decide) (by decide)) rfl rfl rfl rfl ?_
   change AU _ _ _ _ _ _ _ _
   refine Qf [15] (by kernel_rfl) rfl ⟨.inr (.inr (Qe hN2 rfl rfl rfl rfl (by simp) rfl rfl (by rfl) (by rw [List.length_map, hdl]; simp [Qg]; omega) rfl rfl rfl rfl ?_)), trivial⟩
   change AU _ _ _ _ _ _ _ _
   refine Xy 16 rfl (by kernel_rfl) (by kernel_rfl) rfl (Q9 hN2 rfl rfl rfl rfl rfl rfl) ?_; refine yD ?_; change J5 _ _ _ _  _
   refine QC ?_; refine Qb ?_
   exact ⟨⟨j + 1, ltj, trivial⟩, Qa rfl (QR (QR ⟨(Kq (by rw [QD hjq]; simp [Qg])), rfl, (Xl ⟨(QE (by dsimp only; omega)), rfl, trivial⟩)⟩)) ⟨(Yl (by rw [QD hjq, List.map_append, List.map_cons, List.map_nil, ← Jl]; rfl)), rfl, (Qw _), trivial⟩, by dsimp only; omega⟩
  ·
   refine X1 hN2 (Qj rfl rfl rfl rfl (by exact rfl) (by decide) (by decide)) rfl rfl rfl rfl ?_
   change AU _ _ _ _ _ _ _ _
   refine Qf [3, 11] (by kernel_rfl) rfl ⟨.inr (.inr (Q1 hN2 rfl rfl (Kn v.nm (by omega)) (.fn _ _ _ _ rfl rfl) rfl rfl rfl rfl rfl ?_)), .inl (Qx rfl ?_), trivial⟩
   ·
    change AU _ _ _ _ _ _ _ _
    refine Qf [6, 11] (by kernel_rfl) rfl ⟨.inr (.inr (Qe hN2 rfl rfl rfl rfl (by simp) rfl rfl (by rfl) (by simp [Qg]; omega) rfl rfl rfl rfl ?_)), .inl (Qx rfl ?_), trivial⟩
    ·
     change AU _ _ _ _ _ _ _ _
     refine Qf [9, 11] (by kernel_rfl) rfl ⟨.inr (.inr (Q1 hN2 rfl rfl (QZ v.ps (by omega)) (.fn _ _ _ _ rfl rfl) rfl rfl rfl rfl rfl ?_)), .inl (Qx rfl ?_), trivial⟩
     ·
      change AU _ _ _ _ _ _ _ _
      refine Qf [11] (by kernel_rfl) rfl ⟨.inl (Qx rfl ?_), trivial⟩
      refine X1 hN2 (Qj rfl rfl rfl rfl (by exact rfl) (by decide) (by decide)) rfl rfl rfl rfl ?_
      change AU _ _ _ _ _ _ _ _
      refine Qf [12] (by kernel_rfl) rfl ⟨.inr (.inr (Qe hN2 rfl rfl rfl rfl (by simp) rfl rfl (by rfl) (by simp [Qg]; omega) rfl rfl rfl rfl ?_)), trivial⟩
      change AU _ _ _ _ _ _ _ _
      refine Qf [13] (by kernel_rfl) rfl ⟨.inr (.inr (Xg hN2 rfl rfl rfl rfl rfl (XT 44 3 50 4 rfl rfl rfl rfl (by decide) (by decide) (by simp) (QV (XA (fun _ => rfl) _) (by rfl)) (Xn (JB (fun _ => rfl) _) (by intro e he; simp [Qg] at he; subst he; rfl)) (by simp) (QV (QS _) (by rfl)) (Xn (Qp _) (by intro e he; simp [Qg] at he; subst he; rfl)) rfl) (XB rfl rfl rfl) ?_)), trivial⟩
      change AU _ _ _ _ _ _ _ _
      refine Qf [14] (by kernel_rfl) rfl ⟨.inl (Qx rfl ?_), trivial⟩
      refine X1 hN2 (Qj rfl rfl rfl rfl (by exact rfl) (by decide) (by decide)) rfl rfl rfl rfl ?_
      change AU _ _ _ _ _ _ _ _
      refine Qf [15] (by kernel_rfl) rfl ⟨.inr (.inr (Qe hN2 rfl rfl rfl rfl (by simp) rfl rfl (by rfl) (by rw [List.length_map, hdl]; simp [Qg]; omega) rfl rfl rfl rfl ?_)), trivial⟩
      change AU _ _ _ _ _ _ _ _
      refine Xy 16 rfl (by kernel_rfl) (by kernel_rfl) rfl (Q9 hN2 rfl rfl rfl rfl rfl rfl) ?_; refine yD ?_; change J5 _ _ _ _  _
      refine QC ?_; refine Qb ?_
      exact ⟨⟨j + 1, ltj, trivial⟩, Qa rfl (QR (QR ⟨(Kq (by rw [QD hjq]; simp [Qg])), rfl, (Xl ⟨(QE (by dsimp only; omega)), rfl, trivial⟩)⟩)) ⟨(Yl (by rw [QD hjq, List.map_append, List.map_cons, List.map_nil, ← Jl]; rfl)), rfl, (Qw _), trivial⟩, by dsimp only; omega⟩
     refine X1 hN2 (Qj rfl rfl rfl rfl (by exact rfl) (by decide) (by decide)) rfl rfl rfl rfl ?_
     change AU _ _ _ _ _ _ _ _
     refine Qf [9] (by kernel_rfl) rfl ⟨.inr (.inr (Q1 hN2 rfl rfl (QZ v.ps (by omega)) (.fn _ _ _ _ rfl rfl) rfl rfl rfl rfl rfl ?_)), trivial⟩
     change AU _ _ _ _ _ _ _ _
     refine Qf [12] (by kernel_rfl) rfl ⟨.inr (.inr (Qe hN2 rfl rfl rfl rfl (by simp) rfl rfl (by rfl) (by simp [Qg]; omega) rfl rfl rfl rfl ?_)), trivial⟩
     change AU _ _ _ _ _ _ _ _
     refine Qf [13] (by kernel_rfl) rfl ⟨.inr (.inr (Xg hN2 rfl rfl rfl rfl rfl (XT 44 3 50 4 rfl rfl rfl rfl (by decide) (by decide) (by simp) (QV (XA (fun _ => rfl) _) (by rfl)) (Xn (JB (fun _ => rfl) _) (by intro e he; simp [Qg] at he; subst he; rfl)) (by simp) (QV (QS _) (by rfl)) (Xn (Qp _) (by intro e he; simp [Qg] at he; subst he; rfl)) rfl) (XB rfl rfl rfl) ?_)), trivial⟩
     change AU _ _ _ _ _ _ _ _
     refine Qf [14] (by kernel_rfl) rfl ⟨.inl (Qx rfl ?_), trivial⟩
     refine X1 hN2 (Qj rfl rfl rfl rfl (by exact rfl) (by decide) (by decide)) rfl rfl rfl rfl ?_
     change AU _ _ _ _ _ _ _ _
     refine Qf [15] (by kernel_rfl) rfl ⟨.inr (.inr (Qe hN2 rfl rfl rfl rfl (by simp) rfl rfl (by rfl) (by rw [List.length_map, hdl]; simp [Qg]; omega) rfl rfl rfl rfl ?_)), trivial⟩
     change AU _ _ _ _ _ _ _ _
     refine Xy 16 rfl (by kernel_rfl) (by kernel_rfl) rfl (Q9 hN2 rfl rfl rfl rfl rfl rfl) ?_; refine yD ?_; change J5 _ _ _ _  _
     refine QC ?_; refine Qb ?_
     exact ⟨⟨j + 1, ltj, trivial⟩, Qa rfl (QR (QR ⟨(Kq (by rw [QD hjq]; simp [Qg])), rfl, (Xl ⟨(QE (by dsimp only; omega)), rfl, trivial⟩)⟩)) ⟨(Yl (by rw [QD hjq, List.map_append, List.map_cons, List.map_nil, ← Jl]; rfl)), rfl, (Qw _), trivial⟩, by dsimp only; omega⟩
    refine X1 hN2 (Qj rfl rfl rfl rfl (by exact rfl) (by decide) (by decide)) rfl rfl rfl rfl ?_
    change AU _ _ _ _ _ _ _ _
    refine Qf [6] (by kernel_rfl) rfl ⟨.inr (.inr (Qe hN2 rfl rfl rfl rfl (by simp) rfl rfl (by rfl) (by simp [Qg]; omega) rfl rfl rfl rfl ?_)), trivial⟩
    change AU _ _ _ _ _ _ _ _
    refine Qf [9] (by kernel_rfl) rfl ⟨.inr (.inr (Q1 hN2 rfl rfl (QZ v.ps (by omega)) (.fn _ _ _ _ rfl rfl) rfl rfl rfl rfl rfl ?_)), trivial⟩
    change AU _ _ _ _ _ _ _ _
    refine Qf [12] (by kernel_rfl) rfl ⟨.inr (.inr (Qe hN2 rfl rfl rfl rfl (by simp) rfl rfl (by rfl) (by simp [Qg]; omega) rfl rfl rfl rfl ?_)), trivial⟩
    change AU _ _ _ _ _ _ _ _
    refine Qf [13] (by kernel_rfl) rfl ⟨.inr (.inr (Xg hN2 rfl rfl rfl rfl rfl (XT 44 3 50 4 rfl rfl rfl rfl (by decide) (by decide) (by simp) (QV (XA (fun _ => rfl) _) (by rfl)) (Xn (JB (fun _ => rfl) _) (by intro e he; simp [Qg] at he; subst he; rfl)) (by simp) (QV (QS _) (by rfl)) (Xn (Qp _) (by intro e he; simp [Qg] at he; subst he; rfl)) rfl) (XB rfl rfl rfl) ?_)), trivial⟩
    change AU _ _ _ _ _ _ _ _
    refine Qf [14] (by kernel_rfl) rfl ⟨.inl (Qx rfl ?_), trivial⟩
    refine X1 hN2 (Qj rfl rfl rfl rfl (by exact rfl) (by decide) (by decide)) rfl rfl rfl rfl ?_
    change AU _ _ _ _ _ _ _ _
    refine Qf [15] (by kernel_rfl) rfl ⟨.inr (.inr (Qe hN2 rfl rfl rfl rfl (by simp) rfl rfl (by rfl) (by rw [List.length_map, hdl]; simp [Qg]; omega) rfl rfl rfl rfl ?_)), trivial⟩
    change AU _ _ _ _ _ _ _ _
    refine Xy 16 rfl (by kernel_rfl) (by kernel_rfl) rfl (Q9 hN2 rfl rfl rfl rfl rfl rfl) ?_; refine yD ?_; change J5 _ _ _ _  _
    refine QC ?_; refine Qb ?_
    exact ⟨⟨j + 1, ltj, trivial⟩, Qa rfl (QR (QR ⟨(Kq (by rw [QD hjq]; simp [Qg])), rfl, (Xl ⟨(QE (by dsimp only; omega)), rfl, trivial⟩)⟩)) ⟨(Yl (by rw [QD hjq, List.map_append, List.map_cons, List.map_nil, ← Jl]; rfl)), rfl, (Qw _), trivial⟩, by dsimp only; omega⟩
   refine X1 hN2 (Qj rfl rfl rfl rfl (by exact rfl) (by decide) (by decide)) rfl rfl rfl rfl ?_
   change AU _ _ _ _ _ _ _ _
   refine Qf [3] (by kernel_rfl) rfl ⟨.inr (.inr (Q1 hN2 rfl rfl (Kn v.nm (by omega)) (.fn _ _ _ _ rfl rfl) rfl rfl rfl rfl rfl ?_)), trivial⟩
   change AU _ _ _ _ _ _ _ _
   refine Qf [6] (by kernel_rfl) rfl ⟨.inr (.inr (Qe hN2 rfl rfl rfl rfl (by simp) rfl rfl (by rfl) (by simp [Qg]; omega) rfl rfl rfl rfl ?_)), trivial⟩
   change AU _ _ _ _ _ _ _ _
   refine Qf [9] (by kernel_rfl) rfl ⟨.inr (.inr (Q1 hN2 rfl rfl (QZ v.ps (by omega)) (.fn _ _ _ _ rfl rfl) rfl rfl rfl rfl rfl ?_)), trivial⟩
   change AU _ _ _ _ _ _ _ _
   refine Qf [12] (by kernel_rfl) rfl ⟨.inr (.inr (Qe hN2 rfl rfl rfl rfl (by simp) rfl rfl (by rfl) (by simp [Qg]; omega) rfl rfl rfl rfl ?_)), trivial⟩
   change AU _ _ _ _ _ _ _ _
   refine Qf [13] (by kernel_rfl) rfl ⟨.inr (.inr (Xg hN2 rfl rfl rfl rfl rfl (XT 44 3 50 4 rfl rfl rfl rfl (by decide) (by decide) (by simp) (QV (XA (fun _ => rfl) _) (by rfl)) (Xn (JB (fun _ => rfl) _) (by intro e he; simp [Qg] at he; subst he; rfl)) (by simp) (QV (QS _) (by rfl)) (Xn (Qp _) (by intro e he; simp [Qg] at he; subst he; rfl)) rfl) (XB rfl rfl rfl) ?_)), trivial⟩
   change AU _ _ _ _ _ _ _ _
   refine Qf [14] (by kernel_rfl) rfl ⟨.inl (Qx rfl ?_), trivial⟩
   refine X1 hN2 (Qj rfl rfl rfl rfl (by exact rfl) (by decide) (by decide)) rfl rfl rfl rfl ?_
   change AU _ _ _ _ _ _ _ _
   refine Qf [15] (by kernel_rfl) rfl ⟨.inr (.inr (Qe hN2 rfl rfl rfl rfl (by simp) rfl rfl (by rfl) (by rw [List.length_map, hdl]; simp [Qg]; omega) rfl rfl rfl rfl ?_)), trivial⟩
   change AU _ _ _ _ _ _ _ _
   refine Xy 16 rfl (by kernel_rfl) (by kernel_rfl) rfl (Q9 hN2 rfl rfl rfl rfl rfl rfl) ?_; refine yD ?_; change J5 _ _ _ _  _
   refine QC ?_; refine Qb ?_
   exact ⟨⟨j + 1, ltj, trivial⟩, Qa rfl (QR (QR ⟨(Kq (by rw [QD hjq]; simp [Qg])), rfl, (Xl ⟨(QE (by dsimp only; omega)), rfl, trivial⟩)⟩)) ⟨(Yl (by rw [QD hjq, List.map_append, List.map_cons, List.map_nil, ← Jl]; rfl)), rfl, (Qw _), trivial⟩, by dsimp only; omega⟩
  refine X1 hN2 (Qj rfl rfl rfl rfl (by exact rfl) (by decide) (by decide)) rfl rfl rfl rfl ?_
  change AU _ _ _ _ _ _ _ _
  refine Qf [3, 5] (by kernel_rfl) rfl ⟨.inr (.inr (Q1 hN2 rfl rfl (Kn v.nm (by omega)) (.fn _ _ _ _ rfl rfl) rfl rfl rfl rfl rfl ?_)), .inl (Qx rfl ?_), trivial⟩
  ·
   change AU _ _ _ _ _ _ _ _
   refine Qf [5] (by kernel_rfl) rfl ⟨.inl (Qx rfl ?_), trivial⟩
   refine X1 hN2 (Qj rfl rfl rfl rfl (by exact rfl) (by decide) (by decide)) rfl rfl rfl rfl ?_
   change AU _ _ _ _ _ _ _ _
   refine Qf [6] (by kernel_rfl) rfl ⟨.inr (.inr (Qe hN2 rfl rfl rfl rfl (by simp) rfl rfl (by rfl) (by simp [Qg]; omega) rfl rfl rfl rfl ?_)), trivial⟩
   change AU _ _ _ _ _ _ _ _
   refine Qf [9] (by kernel_rfl) rfl ⟨.inr (.inr (Q1 hN2 rfl rfl (QZ v.ps (by omega)) (.fn _ _ _ _ rfl rfl) rfl rfl rfl rfl rfl ?_)), trivial⟩
   change AU _ _ _ _ _ _ _ _
   refine Qf [12] (by kernel_rfl) rfl ⟨.inr (.inr (Qe hN2 rfl rfl rfl rfl (by simp) rfl rfl (by rfl) (by simp [Qg]; omega) rfl rfl rfl rfl ?_)), trivial⟩
   change AU _ _ _ _ _ _ _ _
   refine Qf [13] (by kernel_rfl) rfl ⟨.inr (.inr (Xg hN2 rfl rfl rfl rfl rfl (XT 44 3 50 4 rfl rfl rfl rfl (by decide) (by decide) (by simp) (QV (XA (fun _ => rfl) _) (by rfl)) (Xn (JB (fun _ => rfl) _) (by intro e he; simp [Qg] at he; subst he; rfl)) (by simp) (QV (QS _) (by rfl)) (Xn (Qp _) (by intro e he; simp [Qg] at he; subst he; rfl)) rfl) (XB rfl rfl rfl) ?_)), trivial⟩
   change AU _ _ _ _ _ _ _ _
   refine Qf [14] (by kernel_rfl) rfl ⟨.inl (Qx rfl ?_), trivial⟩
   refine X1 hN2 (Qj rfl rfl rfl rfl (by exact rfl) (by decide) (by decide)) rfl rfl rfl rfl ?_
   change AU _ _ _ _ _ _ _ _
   refine Qf [15] (by kernel_rfl) rfl ⟨.inr (.inr (Qe hN2 rfl rfl rfl rfl (by simp) rfl rfl (by rfl) (by rw [List.length_map, hdl]; simp [Qg]; omega) rfl rfl rfl rfl ?_)), trivial⟩
   change AU _ _ _ _ _ _ _ _
   refine Xy 16 rfl (by kernel_rfl) (by kernel_rfl) rfl (Q9 hN2 rfl rfl rfl rfl rfl rfl) ?_; refine yD ?_; change J5 _ _ _ _  _
   refine QC ?_; refine Qb ?_
   exact ⟨⟨j + 1, ltj, trivial⟩, Qa rfl (QR (QR ⟨(Kq (by rw [QD hjq]; simp [Qg])), rfl, (Xl ⟨(QE (by dsimp only; omega)), rfl, trivial⟩)⟩)) ⟨(Yl (by rw [QD hjq, List.map_append, List.map_cons, List.map_nil, ← Jl]; rfl)), rfl, (Qw _), trivial⟩, by dsimp only; omega⟩
  refine X1 hN2 (Qj rfl rfl rfl rfl (by exact rfl) (by decide) (by decide)) rfl rfl rfl rfl ?_
  change AU _ _ _ _ _ _ _ _
  refine Qf [3] (by kernel_rfl) rfl ⟨.inr (.inr (Q1 hN2 rfl rfl (Kn v.nm (by omega)) (.fn _ _ _ _ rfl rfl) rfl rfl rfl rfl rfl ?_)), trivial⟩
  change AU _ _ _ _ _ _ _ _
  refine Qf [6] (by kernel_rfl) rfl ⟨.inr (.inr (Qe hN2 rfl rfl rfl rfl (by simp) rfl rfl (by rfl) (by simp [Qg]; omega) rfl rfl rfl rfl ?_)), trivial⟩
  change AU _ _ _ _ _ _ _ _
  refine Qf [9] (by kernel_rfl) rfl ⟨.inr (.inr (Q1 hN2 rfl rfl (QZ v.ps (by omega)) (.fn _ _ _ _ rfl rfl) rfl rfl rfl rfl rfl ?_)), trivial⟩
  change AU _ _ _ _ _ _ _ _
  refine Qf [12] (by kernel_rfl) rfl ⟨.inr (.inr (Qe hN2 rfl rfl rfl rfl (by simp) rfl rfl (by rfl) (by simp [Qg]; omega) rfl rfl rfl rfl ?_)), trivial⟩
  change AU _ _ _ _ _ _ _ _
  refine Qf [13] (by kernel_rfl) rfl ⟨.inr (.inr (Xg hN2 rfl rfl rfl rfl rfl (XT 44 3 50 4 rfl rfl rfl rfl (by decide) (by decide) (by simp) (QV (XA (fun _ => rfl) _) (by rfl)) (Xn (JB (fun _ => rfl) _) (by intro e he; simp [Qg] at he; subst he; rfl)) (by simp) (QV (QS _) (by rfl)) (Xn (Qp _) (by intro e he; simp [Qg] at he; subst he; rfl)) rfl) (XB rfl rfl rfl) ?_)), trivial⟩
  change AU _ _ _ _ _ _ _ _
  refine Qf [14] (by kernel_rfl) rfl ⟨.inl (Qx rfl ?_), trivial⟩
  refine X1 hN2 (Qj rfl rfl rfl rfl (by exact rfl) (by decide) (by decide)) rfl rfl rfl rfl ?_
  change AU _ _ _ _ _ _ _ _
  refine Qf [15] (by kernel_rfl) rfl ⟨.inr (.inr (Qe hN2 rfl rfl rfl rfl (by simp) rfl rfl (by rfl) (by rw [List.length_map, hdl]; simp [Qg]; omega) rfl rfl rfl rfl ?_)), trivial⟩
  change AU _ _ _ _ _ _ _ _
  refine Xy 16 rfl (by kernel_rfl) (by kernel_rfl) rfl (Q9 hN2 rfl rfl rfl rfl rfl rfl) ?_; refine yD ?_; change J5 _ _ _ _  _
  refine QC ?_; refine Qb ?_
  exact ⟨⟨j + 1, ltj, trivial⟩, Qa rfl (QR (QR ⟨(Kq (by rw [QD hjq]; simp [Qg])), rfl, (Xl ⟨(QE (by dsimp only; omega)), rfl, trivial⟩)⟩)) ⟨(Yl (by rw [QD hjq, List.map_append, List.map_cons, List.map_nil, ← Jl]; rfl)), rfl, (Qw _), trivial⟩, by dsimp only; omega⟩
 skip
 refine QA ?_
 refine zq ?_ ?_ <;> intro h158
 ·
  exfalso; simp at h158
 refine Xz ?_; refine QG ?_
 change (YK _ _).ntt = _ ∧ _
 refine WN rfl ?_ rfl rfl rfl ⟨rfl, rfl, Qw _, trivial⟩
 rfl
end Go.Proofs.YtaecccdkjmipeaaGreat
