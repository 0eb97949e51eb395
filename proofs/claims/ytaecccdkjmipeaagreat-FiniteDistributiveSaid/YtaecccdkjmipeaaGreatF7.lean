/-
  Contracts: finite.products, all at products (seat r5).
-/
import Derived.Test.YtaecccdkjmipeaaGreatF6
import Derived.Test.YtaecccdkjmipeaaGreatB19
namespace Go.Proofs.YtaecccdkjmipeaaGreat
set_option maxRecDepth 100000
set_option maxHeartbeats 1000000
open Go.RowKit
theorem QZ (l : List Qn) (hl : l.length ≤ 1000000) : FO Tryz.prog 114 [JM l] 30 4 (l.map Xx) := by
 refine Qfn 2 Tryz.func114 rfl rfl 8 Tryz.ntmps114 (Nat.le_of_ble_eq_true rfl) ?_
 intro E hN
 refine XJ ?_
 refine Qm5 hN rfl rfl rfl rfl rfl rfl rfl (fun b hbb => ?_)
 refine zN ?_
 refine zq ?_ ?_ <;> intro h2
 ·
  have hnil : l = [] := by
   rcases l with _ | ⟨x, r⟩
   ·rfl
   have := hbb (by simp); rw [this] at h2; cases h2
  subst hnil
  refine QJ ?_; refine Qu (Yu rfl 2 30 4 rfl) ?_; refine QG ?_
  exact ⟨0, 0, rfl, rfl, rfl, Qp []⟩
 refine QC ?_; refine Wm hN rfl rfl rfl rfl rfl rfl ?_; refine zM ?_
 refine Xb hN rfl rfl rfl rfl rfl rfl (QS _) (by simp; omega) rfl rfl rfl rfl ?_
 refine zT ?_; refine QG ?_
 exact ⟨0, _, rfl, by simp, rfl, Qp l⟩
def Qmx (v q : Qn) : Qn := .mk 0 [] (v.ps ++ [q]) []
def QfP (out L : List Qn) : List Qn := out.flatMap fun v => L.map (Qmx v)
def Xp (Ls : List (List Qn)) : List Qn := Ls.foldl QfP [Qn.zero]
def Ws (out L : List Qn) (k j : Nat) : List Qn := (out.take k).flatMap (fun v => L.map (Qmx v)) ++ (match out[k]? with | some v => (L.take j).map (Qmx v) | none => [])
theorem W1 (out L : List Qn) (k : Nat) : Ws out L k 0 = (out.take k).flatMap (fun v => L.map (Qmx v)) := by
 unfold Ws
 cases out[k]? <;> simp
theorem Qdh {out L : List Qn} {k : Nat} {v : Qn} {j : Nat} (hk : out[k]? = some v) (hj : L.length ≤ j) : Ws out L k j = Ws out L (k + 1) 0 := by
 rw [W1]
 unfold Ws
 rw [hk, List.take_of_length_le hj, List.take_add_one, hk, List.flatMap_append]
 simp
theorem Xv {out L : List Qn} {k j : Nat} {v q : Qn} (hk : out[k]? = some v) (hj : L[j]? = some q) : Ws out L k (j + 1) = Ws out L k j ++ [Qmx v q] := by
 unfold Ws
 rw [hk, List.take_add_one, hj]
 simp
theorem Qfm {out L : List Qn} {k : Nat} (hk : out.length ≤ k) : Ws out L k 0 = QfP out L := by
 rw [W1, List.take_of_length_le hk]; rfl
theorem Qhw (L : List Qn) : ∀ l : List Qn, (l.flatMap fun v => L.map (Qmx v)).length = l.length * L.length
 | [] => by simp
 | v :: l => by rw [List.flatMap_cons, List.length_append, Qhw L l, List.length_map, List.length_cons, Nat.add_mul, Nat.one_mul, Nat.add_comm]
theorem YN {out L : List Qn} {k j : Nat} (hk : k < out.length) (hj : j ≤ L.length) : (Ws out L k j).length ≤ out.length * L.length := by
 unfold Ws
 rw [List.getElem?_eq_getElem hk, List.length_append, Qhw, List.length_map, List.length_take, List.length_take]
 have h1 : (k + 1) * L.length ≤ out.length * L.length := Nat.mul_le_mul_right _ hk
 rw [Nat.add_mul, Nat.one_mul] at h1
 have h2 : min k out.length = k := by omega
 rw [h2]
 omega
theorem QbD (out L : List Qn) : (QfP out L).length = out.length * L.length := Qhw L out
theorem Kg {Ls : List (List Qn)} {i : Nat} {L : List Qn} (h : Ls[i]? = some L) : Xp (Ls.take (i + 1)) = QfP (Xp (Ls.take i)) L := by
 unfold Xp
 rw [List.take_add_one, h, List.foldl_append]; rfl
theorem Qle : ∀ (Ls : List (List Qn)) (v : Qn), v ∈ Xp Ls → v.ps.length ≤ Ls.length := by
 have key : ∀ (Ls : List (List Qn)) (out : List Qn) (b : Nat), (∀ v ∈ out, v.ps.length ≤ b) → ∀ v ∈ Ls.foldl QfP out, v.ps.length ≤ b + Ls.length := by
  intro Ls
  induction Ls with
  | nil => intro out b h v hv; exact h v hv
  | cons L Ls ih =>
   intro out b h v hv
   have := ih (QfP out L) (b + 1) (fun x hx => by
    unfold QfP at hx
    obtain ⟨y, hy, hx⟩ := List.mem_flatMap.1 hx
    obtain ⟨q, -, rfl⟩ := List.mem_map.1 hx
    show (y.ps ++ [q]).length ≤ b + 1
    rw [List.length_append]
    have := h y hy
    simp; omega) v hv
   rw [List.length_cons]; omega
 intro Ls v hv
 have := key Ls [Qn.zero] 0 (fun v hv => by simp at hv; subst hv; exact Nat.le_refl _) v hv
 omega
theorem QmR {x : Int} (h : 0 ≤ x) (h2 : x ≤ 4611686018427387904) : IntKind.i64.wrap x = x := IntWalk.i64_in _ (by omega)
theorem Qiw {a b : Nat} (h : a * b ≤ 256) : decide (IntKind.i64.wrap ((a : Int) * (b : Int)) > 256) = false := by
 rw [← Int.natCast_mul, IntWalk.i64_in _ (by omega)]
 simp; omega
theorem Yr (v q : Qn) : Qg 4 1 [i64 0, .sl [] none, .sl (v.ps.map Xx ++ Qg 4 1 (Xm q)) none, .sl [] none] = [Xx (Qmx v q)] := by
 rw [X3]
 show [[i64 0, AV.sl [] none, AV.sl (v.ps.map Xx ++ [Xm q]) none, AV.sl [] none]] = [[i64 0, XU [], AV.sl ((v.ps ++ [q]).map Xx) none, ens []]]
 rw [List.map_append, List.map_cons, X3 q]; rfl
theorem QoB : some (AV.sl (Qg 4 1 [i64 0, .sl [] none, .sl [] none, .sl [] none]) none) = some (JM (Xp [])) := by
 show some (AV.sl [Xm Qn.zero] none) = some (AV.sl [Xx Qn.zero] none)
 rw [X3]
theorem QV {k : Nat} {a b : List (List AV)} (ha : a.all (okE k) = true) (hb : b.all (okE k) = true) : (a ++ b).all (okE k) = true := by rw [List.all_append, ha, hb]; rfl
theorem Xn {a b : List (List AV)} (ha : ∀ e ∈ a, fzs e = some e) (hb : ∀ e ∈ b, fzs e = some e) : ∀ e ∈ a ++ b, fzs e = some e := fun e he => by
 rcases List.mem_append.1 he with h | h
 ·exact ha e h
 exact hb e h
theorem Qtt {l l' : List Qn} (h : l = l') : some (JM l) = some (JM l') := by rw [h]
theorem QfV (parts : List Qs) (Ls : List (List Qn)) (h0 : 0 < parts.length) (hl : Ls.length = parts.length) (hA : ∀ (i : Nat) (p : Qs) (L : List Qn), parts[i]? = some p → Ls[i]? = some L → GV 48 [.agg (QF p)] L 0 1) (h256 : ∀ i, i ≤ Ls.length → (Xp (Ls.take i)).length ≤ 256) (hL : ∀ L ∈ Ls, L.length ≤ 256) (h64 : parts.length ≤ 64) : GV 78 [.sl (parts.map WB) none] (Xp Ls) 2 3 := by
 refine JC [2, 3] Tryz.func78 rfl rfl 64 Tryz.ntmps78 (Nat.le_of_ble_eq_true rfl) ?_
 intro E hN
 refine XJ ?_; refine zP (Qj rfl rfl rfl rfl (by exact rfl) (by decide) (by decide)) ?_; refine XN ?_
 refine Qi (fun x : {i : Nat // i < parts.length} ⊕ Unit => match x with | .inl x => ⟨[(16, .sl (parts.map WB) none), (17, i64 parts.length), (18, i64 (x.1 : Nat)), (4, JM (Xp (Ls.take x.1)))], [], 0⟩ | .inr _ => ⟨[(16, .sl (parts.map WB) none), (17, i64 parts.length), (18, i64 parts.length), (4, .own 2 (Xp Ls).length)], [(2, .arr 30 4 ((Xp Ls).map Xx))], 3⟩) (fun x => match x with | .inl x => parts.length - x.1 | .inr _ => 0) (Sum.inl ⟨0, h0⟩) ?_ ?_
 ·
  exact Qa rfl (Xu ⟨(QE (by simp)), rfl, rfl, rfl, QoB, rfl, trivial⟩) trivial
 rintro (⟨i, hi⟩ | ⟨⟩)
 ·
  skip
  refine QA ?_
  refine zq ?_ ?_ <;> intro h9
  rotate_left
  ·
   exfalso; simp at h9; omega
  obtain ⟨pl, hip⟩ := Qk hi
  obtain ⟨L, hiL⟩ := Qk (show i < Ls.length by omega)
  have hLl := hL L (List.mem_of_getElem? hiL)
  have h2i := h256 i (by omega)
  refine QA ?_; refine zP (Qh rfl rfl rfl i rfl _ (Xt hip) rfl) ?_; refine Xz ?_
  refine YH hN [] (hA i pl L hip hiL) (.fn _ _ _ _ rfl rfl) rfl rfl rfl trivial rfl ⟨WV (Qp _), trivial⟩ rfl (Hn := [(1, .arr 30 4 (L.map Xx))]) (YF (Qp _)) rfl rfl rfl rfl rfl rfl ?_
  refine XJ ?_; refine Qu (QB 7 1 rfl rfl (by simp) (QS _) (Qp _) rfl) ?_; refine JU ?_
  refine zP (Xc (b := false) rfl rfl rfl (congrArg Value.bool (Qiw (a := ((Xp (Ls.take i)).map Xx).length) (b := (L.map Xx).length) (by simp only [List.length_map]; have := h256 (i + 1) (by omega); rw [Kg hiL, QbD] at this; exact this)))) ?_
  refine QeT ?_; refine Qu (Yu rfl 9 30 4 rfl) ?_
  refine Qi (fun x : {k : Nat // k ≤ (Xp (Ls.take i)).length ∧ True} => ⟨[(16, .sl (parts.map WB) none), (17, i64 parts.length), (18, i64 (i : Nat)), (7, JM L), (37, JM (Xp (Ls.take i))), (38, i64 (Xp (Ls.take i)).length), (39, i64 (x.1 : Nat)), (9, .own 2 (Ws (Xp (Ls.take i)) L x.1 0).length)], [(2, .arr 30 4 ((Ws (Xp (Ls.take i)) L x.1 0).map Xx))], 3⟩) (fun x => (Xp (Ls.take i)).length - x.1) (⟨0, Nat.zero_le _, by trivial⟩) ?_ ?_
  ·
   exact Qa rfl (QR (Xu ⟨(QE (by simp)), rfl, rfl, rfl, (Kq (by rw [W1]; rfl)), rfl, trivial⟩)) ⟨(Yl (by rw [W1]; rfl)), rfl, (Qw _), trivial⟩
  rintro ⟨k, hk, gk⟩
  dsimp only
  refine QA ?_
  refine zq ?_ ?_ <;> intro h30
  rotate_left
  ·
   have gek : (Xp (Ls.take i)).length ≤ k := by simpa using h30
   refine XJ ?_; refine Qb ?_
   by_cases hlast : i + 1 < parts.length
   ·exact ⟨.inl ⟨i + 1, hlast⟩, WM.trans (QB 4 2 rfl rfl (by simp) (QS _) (Qp _) rfl) (Qa rfl (Jg ⟨(QE (by dsimp only; omega)), rfl, (Qtt (by rw [Qfm gek, Kg hiL])), rfl, trivial⟩) trivial), by dsimp only; omega⟩
   have hpe : Ws (Xp (Ls.take i)) L k 0 = Xp Ls := by
    rw [Qfm gek, ← Kg hiL, List.take_of_length_le (by omega)]
   exact ⟨.inr (), Qa rfl (Jg ⟨(QE (by omega)), rfl, (Kq (by rw [hpe])), rfl, trivial⟩) ⟨(Yl (by rw [hpe])), rfl, (Qw _), trivial⟩, by show 0 < parts.length - i; omega⟩
  have ltk : k < (Xp (Ls.take i)).length := by simpa using h30
  obtain ⟨v, hkv⟩ := Qk ltk
  have hvp := Qle _ v (List.mem_of_getElem? hkv)
  rw [List.length_take] at hvp
  refine QA ?_; refine zP (Qh rfl rfl rfl k rfl _ (Xk hkv) rfl) ?_; refine YJ ?_
  refine Qi (fun x : {j : Nat // j ≤ L.length ∧ True} => ⟨[(16, .sl (parts.map WB) none), (17, i64 parts.length), (18, i64 (i : Nat)), (7, JM L), (37, JM (Xp (Ls.take i))), (38, i64 (Xp (Ls.take i)).length), (39, i64 (k : Nat)), (9, .own 2 (Ws (Xp (Ls.take i)) L k x.1).length), (11, .ptr 3 0), (43, JM L), (44, i64 L.length), (45, i64 (x.1 : Nat))], [(2, .arr 30 4 ((Ws (Xp (Ls.take i)) L k x.1).map Xx)), (3, .var 30 (Xm v))], 4⟩) (fun x => L.length - x.1) (⟨0, Nat.zero_le _, by trivial⟩) ?_ ?_
  ·
   exact Qa rfl (QR (QR (Jg ⟨(QE (by simp)), rfl, (Xu trivial)⟩))) ⟨rfl, rfl, (Qw _), rfl, rfl, rfl, trivial⟩
  rintro ⟨j, hj, gj⟩
  dsimp only
  refine QA ?_
  refine zq ?_ ?_ <;> intro h48
  rotate_left
  ·
   have gej : L.length ≤ j := by simpa using h48
   refine QJ ?_; refine Qb ?_
   exact ⟨⟨k + 1, ltk, trivial⟩, Qa rfl (QR (Jg ⟨(QE (by dsimp only; omega)), rfl, (Kq (by rw [Qdh hkv gej])), rfl, trivial⟩)) ⟨(Yl (by rw [Qdh hkv gej])), rfl, (Qw _), trivial⟩, by dsimp only; omega⟩
  have ltj : j < L.length := by simpa using h48
  obtain ⟨q, hjq⟩ := Qk ltj
  refine QA ?_; refine zP (Qh rfl rfl rfl j rfl _ (Xk hjq) rfl) ?_; refine QJ ?_
  refine QdE 11 rfl (by kernel_rfl) (by kernel_rfl) (fun _ _ h => h) ?_; refine yM 0 ?_
  refine Xy 1 rfl (by kernel_rfl) (by kernel_rfl) rfl (Kd hN rfl rfl rfl rfl rfl rfl rfl rfl) ?_
  refine Qf [2, 4] (by kernel_rfl) rfl ⟨.inl (Qx rfl ?_), .inl (Qx rfl ?_), trivial⟩
  ·
   refine zl ?_
   change AU _ _ _ _ _ _ _ _
   refine Qf [3, 4] (by kernel_rfl) rfl ⟨.inr (.inr (Q1 hN rfl rfl (QZ v.ps (by omega)) (.fn _ _ _ _ rfl rfl) rfl rfl rfl rfl rfl ?_)), .inl (Qx rfl ?_), trivial⟩
   ·
    change AU _ _ _ _ _ _ _ _
    refine yL 4 ?_; refine yP 5 rfl (Qj rfl rfl rfl rfl (by exact rfl) (by decide) (by decide)) ?_
    refine Qf [6] (by kernel_rfl) rfl ⟨.inr (.inr (Qe hN rfl rfl rfl rfl (by simp) rfl rfl (by rfl) (by simp [Qg]; omega) rfl rfl rfl rfl ?_)), trivial⟩
    change AU _ _ _ _ _ _ _ _
    refine Qf [7] (by kernel_rfl) rfl ⟨.inr (.inr (Xg hN rfl rfl rfl rfl rfl (QB 55 5 rfl rfl (by simp) (QV (QS _) (by rfl)) (Xn (Qp _) (by intro e he; simp [Qg] at he; subst he; rfl)) rfl) (XB rfl rfl rfl) ?_)), trivial⟩
    change AU _ _ _ _ _ _ _ _
    refine yP 8 rfl (Qj rfl rfl rfl rfl (by exact rfl) (by decide) (by decide)) ?_
    refine Qf [9] (by kernel_rfl) rfl ⟨.inr (.inr (Qe hN rfl rfl rfl rfl (by simp) rfl rfl (by rfl) (by have := YN (L := L) ltk (show j ≤ L.length by omega); have := Nat.mul_le_mul h2i hLl; simp [Qg]; omega) rfl rfl rfl rfl ?_)), trivial⟩
    change AU _ _ _ _ _ _ _ _
    refine yA 10 ?_; refine yD ?_; change J5 _ _ _ _  _; refine QC ?_; refine Qb ?_
    exact ⟨⟨j + 1, ltj, trivial⟩, Qa rfl (QR (Xl ⟨(Kq (by rw [Xv hkv hjq]; simp [Qg])), rfl, (Xl ⟨(QE (by dsimp only; omega)), rfl, trivial⟩)⟩)) ⟨(Yl (by rw [Xv hkv hjq, List.map_append, List.map_cons, List.map_nil, ← Yr])), rfl, (Qw _), rfl, rfl, rfl, trivial⟩, by dsimp only; omega⟩
   refine zl ?_
   change AU _ _ _ _ _ _ _ _
   refine Qf [3, 5] (by kernel_rfl) rfl ⟨.inr (.inr (Q1 hN rfl rfl (QZ v.ps (by omega)) (.fn _ _ _ _ rfl rfl) rfl rfl rfl rfl rfl ?_)), .inl (Qx rfl ?_), trivial⟩
   ·
    change AU _ _ _ _ _ _ _ _
    refine yP 5 rfl (Qj rfl rfl rfl rfl (by exact rfl) (by decide) (by decide)) ?_
    refine Qf [6] (by kernel_rfl) rfl ⟨.inr (.inr (Qe hN rfl rfl rfl rfl (by simp) rfl rfl (by rfl) (by simp [Qg]; omega) rfl rfl rfl rfl ?_)), trivial⟩
    change AU _ _ _ _ _ _ _ _
    refine Qf [7] (by kernel_rfl) rfl ⟨.inr (.inr (Xg hN rfl rfl rfl rfl rfl (QB 55 5 rfl rfl (by simp) (QV (QS _) (by rfl)) (Xn (Qp _) (by intro e he; simp [Qg] at he; subst he; rfl)) rfl) (XB rfl rfl rfl) ?_)), trivial⟩
    change AU _ _ _ _ _ _ _ _
    refine yP 8 rfl (Qj rfl rfl rfl rfl (by exact rfl) (by decide) (by decide)) ?_
    refine Qf [9] (by kernel_rfl) rfl ⟨.inr (.inr (Qe hN rfl rfl rfl rfl (by simp) rfl rfl (by rfl) (by have := YN (L := L) ltk (show j ≤ L.length by omega); have := Nat.mul_le_mul h2i hLl; simp [Qg]; omega) rfl rfl rfl rfl ?_)), trivial⟩
    change AU _ _ _ _ _ _ _ _
    refine yA 10 ?_; refine yD ?_; change J5 _ _ _ _  _; refine QC ?_; refine Qb ?_
    exact ⟨⟨j + 1, ltj, trivial⟩, Qa rfl (QR (Xl ⟨(Kq (by rw [Xv hkv hjq]; simp [Qg])), rfl, (Xl ⟨(QE (by dsimp only; omega)), rfl, trivial⟩)⟩)) ⟨(Yl (by rw [Xv hkv hjq, List.map_append, List.map_cons, List.map_nil, ← Yr])), rfl, (Qw _), rfl, rfl, rfl, trivial⟩, by dsimp only; omega⟩
   refine zp (Qj rfl rfl rfl rfl (by exact rfl) (by decide) (by decide)) ?_
   change AU _ _ _ _ _ _ _ _
   refine Qf [3] (by kernel_rfl) rfl ⟨.inr (.inr (Q1 hN rfl rfl (QZ v.ps (by omega)) (.fn _ _ _ _ rfl rfl) rfl rfl rfl rfl rfl ?_)), trivial⟩
   change AU _ _ _ _ _ _ _ _
   refine Qf [6] (by kernel_rfl) rfl ⟨.inr (.inr (Qe hN rfl rfl rfl rfl (by simp) rfl rfl (by rfl) (by simp [Qg]; omega) rfl rfl rfl rfl ?_)), trivial⟩
   change AU _ _ _ _ _ _ _ _
   refine Qf [7] (by kernel_rfl) rfl ⟨.inr (.inr (Xg hN rfl rfl rfl rfl rfl (QB 55 5 rfl rfl (by simp) (QV (QS _) (by rfl)) (Xn (Qp _) (by intro e he; simp [Qg] at he; subst he; rfl)) rfl) (XB rfl rfl rfl) ?_)), trivial⟩
   change AU _ _ _ _ _ _ _ _
   refine yP 8 rfl (Qj rfl rfl rfl rfl (by exact rfl) (by decide) (by decide)) ?_
   refine Qf [9] (by kernel_rfl) rfl ⟨.inr (.inr (Qe hN rfl rfl rfl rfl (by simp) rfl rfl (by rfl) (by have := YN (L := L) ltk (show j ≤ L.length by omega); have := Nat.mul_le_mul h2i hLl; simp [Qg]; omega) rfl rfl rfl rfl ?_)), trivial⟩
   change AU _ _ _ _ _ _ _ _
   refine yA 10 ?_; refine yD ?_; change J5 _ _ _ _  _; refine QC ?_; refine Qb ?_
   exact ⟨⟨j + 1, ltj, trivial⟩, Qa rfl (QR (Xl ⟨(Kq (by rw [Xv hkv hjq]; simp [Qg])), rfl, (Xl ⟨(QE (by dsimp only; omega)), rfl, trivial⟩)⟩)) ⟨(Yl (by rw [Xv hkv hjq, List.map_append, List.map_cons, List.map_nil, ← Yr])), rfl, (Qw _), rfl, rfl, rfl, trivial⟩, by dsimp only; omega⟩
  refine zl ?_
  change AU _ _ _ _ _ _ _ _
  refine Qf [2, 5] (by kernel_rfl) rfl ⟨.inl (Qx rfl ?_), .inl (Qx rfl ?_), trivial⟩
  ·
   refine zl ?_
   change AU _ _ _ _ _ _ _ _
   refine Qf [3, 5] (by kernel_rfl) rfl ⟨.inr (.inr (Q1 hN rfl rfl (QZ v.ps (by omega)) (.fn _ _ _ _ rfl rfl) rfl rfl rfl rfl rfl ?_)), .inl (Qx rfl ?_), trivial⟩
   ·
    change AU _ _ _ _ _ _ _ _
    refine yP 5 rfl (Qj rfl rfl rfl rfl (by exact rfl) (by decide) (by decide)) ?_
    refine Qf [6] (by kernel_rfl) rfl ⟨.inr (.inr (Qe hN rfl rfl rfl rfl (by simp) rfl rfl (by rfl) (by simp [Qg]; omega) rfl rfl rfl rfl ?_)), trivial⟩
    change AU _ _ _ _ _ _ _ _
    refine Qf [7] (by kernel_rfl) rfl ⟨.inr (.inr (Xg hN rfl rfl rfl rfl rfl (QB 55 5 rfl rfl (by simp) (QV (QS _) (by rfl)) (Xn (Qp _) (by intro e he; simp [Qg] at he; subst he; rfl)) rfl) (XB rfl rfl rfl) ?_)), trivial⟩
    change AU _ _ _ _ _ _ _ _
    refine yP 8 rfl (Qj rfl rfl rfl rfl (by exact rfl) (by decide) (by decide)) ?_
    refine Qf [9] (by kernel_rfl) rfl ⟨.inr (.inr (Qe hN rfl rfl rfl rfl (by simp) rfl rfl (by rfl) (by have := YN (L := L) ltk (show j ≤ L.length by omega); have := Nat.mul_le_mul h2i hLl; simp [Qg]; omega) rfl rfl rfl rfl ?_)), trivial⟩
    change AU _ _ _ _ _ _ _ _
    refine yA 10 ?_; refine yD ?_; change J5 _ _ _ _  _; refine QC ?_; refine Qb ?_
    exact ⟨⟨j + 1, ltj, trivial⟩, Qa rfl (QR (Xl ⟨(Kq (by rw [Xv hkv hjq]; simp [Qg])), rfl, (Xl ⟨(QE (by dsimp only; omega)), rfl, trivial⟩)⟩)) ⟨(Yl (by rw [Xv hkv hjq, List.map_append, List.map_cons, List.map_nil, ← Yr])), rfl, (Qw _), rfl, rfl, rfl, trivial⟩, by dsimp only; omega⟩
   refine zp (Qj rfl rfl rfl rfl (by exact rfl) (by decide) (by decide)) ?_
   change AU _ _ _ _ _ _ _ _
   refine Qf [3] (by kernel_rfl) rfl ⟨.inr (.inr (Q1 hN rfl rfl (QZ v.ps (by omega)) (.fn _ _ _ _ rfl rfl) rfl rfl rfl rfl rfl ?_)), trivial⟩
   change AU _ _ _ _ _ _ _ _
   refine Qf [6] (by kernel_rfl) rfl ⟨.inr (.inr (Qe hN rfl rfl rfl rfl (by simp) rfl rfl (by rfl) (by simp [Qg]; omega) rfl rfl rfl rfl ?_)), trivial⟩
   change AU _ _ _ _ _ _ _ _
   refine Qf [7] (by kernel_rfl) rfl ⟨.inr (.inr (Xg hN rfl rfl rfl rfl rfl (QB 55 5 rfl rfl (by simp) (QV (QS _) (by rfl)) (Xn (Qp _) (by intro e he; simp [Qg] at he; subst he; rfl)) rfl) (XB rfl rfl rfl) ?_)), trivial⟩
   change AU _ _ _ _ _ _ _ _
   refine yP 8 rfl (Qj rfl rfl rfl rfl (by exact rfl) (by decide) (by decide)) ?_
   refine Qf [9] (by kernel_rfl) rfl ⟨.inr (.inr (Qe hN rfl rfl rfl rfl (by simp) rfl rfl (by rfl) (by have := YN (L := L) ltk (show j ≤ L.length by omega); have := Nat.mul_le_mul h2i hLl; simp [Qg]; omega) rfl rfl rfl rfl ?_)), trivial⟩
   change AU _ _ _ _ _ _ _ _
   refine yA 10 ?_; refine yD ?_; change J5 _ _ _ _  _; refine QC ?_; refine Qb ?_
   exact ⟨⟨j + 1, ltj, trivial⟩, Qa rfl (QR (Xl ⟨(Kq (by rw [Xv hkv hjq]; simp [Qg])), rfl, (Xl ⟨(QE (by dsimp only; omega)), rfl, trivial⟩)⟩)) ⟨(Yl (by rw [Xv hkv hjq, List.map_append, List.map_cons, List.map_nil, ← Yr])), rfl, (Qw _), rfl, rfl, rfl, trivial⟩, by dsimp only; omega⟩
  refine zp (Qj rfl rfl rfl rfl (by exact rfl) (by decide) (by decide)) ?_
  change AU _ _ _ _ _ _ _ _
  refine yL 2 ?_
  refine Qf [3] (by kernel_rfl) rfl ⟨.inr (.inr (Q1 hN rfl rfl (QZ v.ps (by omega)) (.fn _ _ _ _ rfl rfl) rfl rfl rfl rfl rfl ?_)), trivial⟩
  change AU _ _ _ _ _ _ _ _
  refine Qf [6] (by kernel_rfl) rfl ⟨.inr (.inr (Qe hN rfl rfl rfl rfl (by simp) rfl rfl (by rfl) (by simp [Qg]; omega) rfl rfl rfl rfl ?_)), trivial⟩
  change AU _ _ _ _ _ _ _ _
  refine Qf [7] (by kernel_rfl) rfl ⟨.inr (.inr (Xg hN rfl rfl rfl rfl rfl (QB 55 5 rfl rfl (by simp) (QV (QS _) (by rfl)) (Xn (Qp _) (by intro e he; simp [Qg] at he; subst he; rfl)) rfl) (XB rfl rfl rfl) ?_)), trivial⟩
  change AU _ _ _ _ _ _ _ _
  refine yP 8 rfl (Qj rfl rfl rfl rfl (by exact rfl) (by decide) (by decide)) ?_
  refine Qf [9] (by kernel_rfl) rfl ⟨.inr (.inr (Qe hN rfl rfl rfl rfl (by simp) rfl rfl (by rfl) (by have := YN (L := L) ltk (show j ≤ L.length by omega); have := Nat.mul_le_mul h2i hLl; simp [Qg]; omega) rfl rfl rfl rfl ?_)), trivial⟩
  change AU _ _ _ _ _ _ _ _
  refine yA 10 ?_; refine yD ?_; change J5 _ _ _ _  _; refine QC ?_; refine Qb ?_
  exact ⟨⟨j + 1, ltj, trivial⟩, Qa rfl (QR (Xl ⟨(Kq (by rw [Xv hkv hjq]; simp [Qg])), rfl, (Xl ⟨(QE (by dsimp only; omega)), rfl, trivial⟩)⟩)) ⟨(Yl (by rw [Xv hkv hjq, List.map_append, List.map_cons, List.map_nil, ← Yr])), rfl, (Qw _), rfl, rfl, rfl, trivial⟩, by dsimp only; omega⟩
 skip
 refine QA ?_
 refine zq ?_ ?_ <;> intro h111
 ·
  exfalso; simp at h111
 refine Xz ?_; refine QG ?_
 change (YK _ _).ntt = _ ∧ _
 refine WN rfl ?_ rfl rfl rfl ⟨rfl, rfl, Qw _, trivial⟩
 rfl
def Qgk : Qs := .mk 2 0 1 [] [] []
def QcB : Qs := .mk 1 0 0 [] [] []
def dl : Qs := .mk 6 0 0 [[97], [98]] [Qgk, QcB] []
def dv : List Qn := Xp [Y2 0 2, Y2 0 2]
theorem Qp8 : GV 48 [.agg (QF Qgk)] (Y2 0 2) 0 1 := KF (QpZ 0 1 2 rfl (by decide) (by decide) (by decide))
theorem Qm2 : GV 48 [.agg (QF QcB)] (Y2 0 2) 0 1 := KF Qnp
theorem QsZ : GV 78 [.sl ([Qgk, QcB].map WB) none] dv 0 1 := KF (QfV [Qgk, QcB] [Y2 0 2, Y2 0 2] (by decide) rfl (fun i q L hq hL => by
 match i, hq, hL with
 | 0, hq, hL => cases hq; cases hL; exact Qp8
 | 1, hq, hL => cases hq; cases hL; exact Qm2
 | i + 2, hq, _ => simp at hq) (fun i hi => by
 match i, hi with
 | 0, _ => decide
 | 1, _ => decide
 | 2, _ => decide
 | i + 3, hi => simp at hi) (fun L hL => by simp at hL; subst hL; decide) (by decide))
theorem Qm4 : GV 48 [.agg (QF dl)] dv 1 2 := by
 refine JC [2, 3] Tryz.func48 rfl rfl 91 Tryz.ntmps48 (Nat.le_of_ble_eq_true rfl) ?_
 intro E hN
 refine Yd ?_; refine Yd ?_; refine JA ?_
 refine YH hN [] QsZ (.fn _ _ _ _ rfl rfl) rfl rfl rfl trivial rfl ⟨WV (Qp _), trivial⟩ rfl (Hn := [(1, .arr 30 4 (dv.map Xx))]) (YF (Qp _)) rfl rfl rfl rfl rfl rfl ?_
 refine QA ?_; refine QG ?_
 change (YK _ _).ntt = _ ∧ _
 refine WN rfl ?_ rfl rfl rfl ⟨rfl, rfl, Qw _, trivial⟩
 rfl
theorem Qm7 : GV 48 [.agg (QF dl)] dv 0 1 := KF Qm4
theorem Qph : FC Tryz.prog 47 [.agg (QF Qgk)] (bl true) := by
 refine Qd [2] Tryz.func47 rfl rfl 28 Tryz.ntmps47 (Nat.le_of_ble_eq_true rfl) ?_
 intro E hN
 refine Yd ?_; refine Qu6 ?_; refine Qi (fun _ : Unit => ⟨[(18, .sl [] none), (19, i64 0), (20, i64 0)], [], 0⟩) (fun _ => 0) (()) ?_ ?_
 ·
  exact Qa rfl (Xl trivial) trivial
 intro _
 refine XN ?_; refine zQ ?_
 rfl
theorem QmI : FC Tryz.prog 47 [.agg (QF QcB)] (bl true) := by
 refine Qd [2] Tryz.func47 rfl rfl 28 Tryz.ntmps47 (Nat.le_of_ble_eq_true rfl) ?_
 intro E hN
 refine Yd ?_; refine Qu6 ?_; refine Qi (fun _ : Unit => ⟨[(18, .sl [] none), (19, i64 0), (20, i64 0)], [], 0⟩) (fun _ => 0) (()) ?_ ?_
 ·
  exact Qa rfl (Xl trivial) trivial
 intro _
 refine XN ?_; refine zQ ?_
 rfl
theorem Qq4 : FC Tryz.prog 47 [.agg (QF dl)] (bl true) := by
 refine Qd [2] Tryz.func47 rfl rfl 28 Tryz.ntmps47 (Nat.le_of_ble_eq_true rfl) ?_
 intro E hN
 have hfin : ∀ q ∈ [Qgk, QcB], FC Tryz.prog 47 [.agg (QF q)] (bl true) := fun q hq => by
  simp at hq
  rcases hq with rfl | rfl
  ·exact Qph
  exact QmI
 refine Yd ?_; refine Qu6 ?_
 refine Qi (fun x : {k : Nat // k ≤ ([Qgk, QcB]).length ∧ True} => ⟨[(18, .sl ([Qgk, QcB].map WB) none), (19, i64 2), (20, i64 (x.1 : Nat))], [], 1⟩) (fun x => ([Qgk, QcB]).length - x.1) (⟨0, Nat.zero_le _, by simp⟩) ?_ ?_
 ·
  exact Qa rfl (Xl trivial) trivial
 rintro ⟨k, hk, hg⟩
 dsimp only
 refine QA ?_
 refine zq ?_ ?_ <;> intro h15
 rotate_left
 ·
  skip
  refine QJ ?_; refine zQ ?_
  rfl
 have hlt : k < [Qgk, QcB].length := by have := of_decide_eq_true h15; show k < 2; omega
 have hlt2 : k < 2 := hlt
 obtain ⟨x, hx⟩ := Qk hlt
 refine QA ?_; refine zP (Qh rfl rfl rfl k rfl _ (Xt hx) rfl) ?_; refine Xz ?_
 refine zP (Qc (fcb (c := true) (hfin x (List.mem_of_getElem? hx)) rfl) rfl rfl rfl) ?_; refine Xz ?_; refine Qb ?_
 exact ⟨⟨k + 1, hlt, trivial⟩, Qa rfl (Jg ⟨(QE (by dsimp only; omega)), rfl, trivial⟩) trivial, by dsimp only; omega⟩
theorem Qol {l l2 : List Qn} (hp : l2.Perm l) (h1 : l2.Pairwise (fun x y => 0 ≤ Jk y x)) (h2 : l.Pairwise (fun x y => 0 ≤ Jk y x)) : l2 = l :=
 hp.eq_of_pairwise (fun a b _ _ e1 e2 => by
  have := JN.anti a b
  have := JN.anti b a
  exact JN.eq _ _ (by omega)) h1 h2
theorem Qp1 : dv.Pairwise (fun x y => 0 ≤ Jk y x) := by decide
theorem Qi8 : dv.Pairwise (fun x y => Jk x y < 0) := by decide
theorem Qou : Q0 dl = 0 := by decide
theorem Qh6 (x y : Qn) : FC Tryz.prog 50 [.agg (Xx x), .agg (Xx y)] (i64 (Jk x y)) := by rw [X3, X3]; exact QaB x y
theorem Qfb : FC Tryz.prog 14 [.agg (QF dl)] (.tup [JM dv, i64 0]) := by
 refine Qd [2, 3] Tryz.func14 rfl rfl 22 Tryz.ntmps14 (Nat.le_of_ble_eq_true rfl) ?_
 intro E hN
 refine XN ?_
 refine zP (Qc (by have h := Wx dl; rw [Qou] at h; exact h) rfl rfl rfl) ?_
 refine XJ ?_; refine zP (Qc Qq4 rfl rfl rfl) ?_; refine Xz ?_
 refine YH hN [] Qm7 (.fn _ _ _ _ rfl rfl) rfl rfl rfl trivial rfl ⟨WV (Qp _), trivial⟩ rfl (Hn := [(1, .arr 30 4 (dv.map Xx))]) (YF (Qp _)) rfl rfl rfl rfl rfl rfl ?_
 refine Qe3 ?_
 refine QnE (sf := 49) hN Qh3 rfl (by decide) Xx dv Jk (fun g => JN.swo g) (fun v => by rw [X3]; rfl) (fun v => by rw [X3]; rfl) Tryz.isAgg30 Tryz.sizeOf30 (fun x _ y _ => Qh6 x y) rfl rfl rfl rfl (by decide) rfl rfl rfl rfl (fun l2 hp hs2 => ?_)
 obtain rfl : l2 = dv := Qol hp hs2 Qp1
 refine QO ?_; refine Qu (QB 4 1 rfl rfl (by simp) (QS _) (Qp _) rfl) ?_; refine QJ ?_; refine zQ ?_
 rfl
theorem QrG : FC Tryz.prog 13 [.agg (QF dl)] (.tup [i64 4, i64 0]) := by
 refine Qd [2, 3] Tryz.func13 rfl rfl 14 Tryz.ntmps13 (Nat.le_of_ble_eq_true rfl) ?_
 intro E hN
 refine JU ?_; refine zP (Qc Qfb rfl rfl rfl) ?_; refine Wi ?_; refine zQ ?_
 rfl
theorem Qwz {l : List Qn} {k h : Nat} {v x : Qn} (hs : l.Pairwise (fun x y => Jk x y < 0)) (hk : l[k]? = some v) (hx : l[h]? = some x) (hc : Jk x v < 0) : h < k := by
 obtain ⟨k1, rfl⟩ := List.getElem?_eq_some_iff.1 hk
 obtain ⟨h1, rfl⟩ := List.getElem?_eq_some_iff.1 hx
 rcases Nat.lt_trichotomy h k with e | e | e
 ·exact e
 ·subst e; rw [JN.refl] at hc; omega
 have := List.pairwise_iff_getElem.1 hs k h k1 h1 e
 have := JN.anti l[h] l[k]
 omega
theorem QwI {l : List Qn} {k h : Nat} {v x : Qn} (hs : l.Pairwise (fun x y => Jk x y < 0)) (hk : l[k]? = some v) (hx : l[h]? = some x) (hc : ¬ Jk x v < 0) : k ≤ h := by
 obtain ⟨k1, rfl⟩ := List.getElem?_eq_some_iff.1 hk
 obtain ⟨h1, rfl⟩ := List.getElem?_eq_some_iff.1 hx
 rcases Nat.lt_or_ge h k with e | e
 ·exact absurd (List.pairwise_iff_getElem.1 hs h k h1 k1 e) hc
 exact e
theorem Wh (l : List Qn) (k : Nat) (v : Qn) (hk : l[k]? = some v) (hs : l.Pairwise (fun x y => Jk x y < 0)) (h6 : l.length ≤ 1000000) : FC Tryz.prog 51 [JM l, .agg (Xm v), .fn 50 []] (.tup [i64 (k : Nat), bl true]) := by
 refine Qd [6, 7] Tryz.func51 rfl rfl 49 Tryz.ntmps51 (Nat.le_of_ble_eq_true rfl) ?_
 intro E hN
 refine JK 0 rfl (fun hl0 => ?_)
 have hkl : k < l.length := (List.getElem?_eq_some_iff.1 hk).1
 refine Qis ?_
 refine Qi (fun x : {q : Nat × Nat // q.1 ≤ k ∧ k ≤ q.2 ∧ q.2 ≤ l.length} => ⟨[(0, JM l), (2, .fn 50 []), (4, .ptr 0 0), (8, i64 l.length), (9, i64 (x.1.1 : Nat)), (10, i64 (x.1.2 : Nat))], [(0, .var 30 (Xm v))], 1⟩) (fun x => x.1.2 - x.1.1) (⟨(0, l.length), Nat.zero_le _, by omega, Nat.le_refl _⟩) ?_ ?_
 ·
  exact Qa rfl (Xl ⟨(QE (by simp)), rfl, rfl, rfl, (QE (by simp)), rfl, trivial⟩) ⟨rfl, rfl, rfl, trivial⟩
 rintro ⟨⟨i, j⟩, hi, hj, hjl⟩
 dsimp only at hi hj hjl ⊢
 refine Xz ?_
 refine zq ?_ ?_ <;> intro h12
 rotate_left
 ·
  have gei : ¬ i < j := by have := of_decide_eq_false h12; omega
  obtain rfl : k = i := by omega
  refine QO ?_; refine Qy 15 (by kernel_rfl) (by kernel_rfl) ?_; refine QC ?_
  refine zp (Xc (b := true) rfl rfl rfl (by simp; omega)) ?_
  refine QJ ?_; refine zp (Qh rfl rfl rfl k rfl _ (Xk hk) rfl) ?_; refine QO ?_; refine zp (YG (QaB v v) rfl rfl rfl rfl) ?_
  refine zp (Xc (b := true) rfl rfl rfl (by rw [JN.refl]; rfl)) ?_
  refine KO ?_; refine zp (JP rfl rfl) ?_; change Qz _ _ _ _ _ _; refine zS ?_; refine zQ ?_
  rfl
 have lti : i < j := by have := of_decide_eq_true h12; omega
 obtain ⟨x, hx⟩ := Qk (show (i + j) / 2 < l.length by omega)
 refine Xz ?_; refine zP (Qgx rfl rfl ((i + j : Nat) : Int) (Qof (by omega))) ?_; refine zB ?_
 refine zP (Qgx rfl rfl (((i + j) / 2 : Nat) : Int) (QoE (by omega))) ?_; refine QC ?_; refine Qy 7 (by kernel_rfl) (by kernel_rfl) ?_
 refine QC ?_; refine zp (Qh rfl rfl rfl ((i + j) / 2) (by omega) _ (Xk hx) rfl) ?_; refine QO ?_
 refine zp (YG (QaB x v) rfl rfl rfl rfl) ?_; change Qz _ _ _ _ _ _; refine QO ?_
 refine zq ?_ ?_ <;> intro h21
 ·
  have h5 := of_decide_eq_true h21
  refine QJ ?_; refine Qb ?_
  exact ⟨⟨((i + j) / 2 + 1, j), by have := Qwz hs hk hx h5; omega, hj, hjl⟩, Qa rfl (QR ⟨(QE (by first | rfl | (dsimp only; omega))), rfl, (QE (by first | rfl | (dsimp only; omega))), rfl, trivial⟩) ⟨rfl, rfl, rfl, trivial⟩, by dsimp only; omega⟩
 have h5 := of_decide_eq_false h21
 refine QC ?_; refine Qb ?_
 exact ⟨⟨(i, (i + j) / 2), hi, QwI hs hk hx h5, by omega⟩, Qa rfl (QR ⟨(QE (by first | rfl | (dsimp only; omega))), rfl, (QE (by first | rfl | (dsimp only; omega))), rfl, trivial⟩) ⟨rfl, rfl, rfl, trivial⟩, by dsimp only; omega⟩
end Go.Proofs.YtaecccdkjmipeaaGreat
