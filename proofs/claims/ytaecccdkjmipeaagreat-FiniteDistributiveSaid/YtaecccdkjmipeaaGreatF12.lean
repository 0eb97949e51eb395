/-
  Contracts: finite.subsets, closed (seat r5).
-/
import Derived.Test.YtaecccdkjmipeaaGreatF7
import Derived.Test.YtaecccdkjmipeaaGreatA10
namespace Go.Proofs.YtaecccdkjmipeaaGreat
set_option maxRecDepth 100000
set_option maxHeartbeats 1000000
open Go.RowKit
theorem QmU (rs : List Ru) (l : List Nm) : FC Tryz.prog 73 [rus rs, XU l] (bl (Xf rs l)) := by
 refine Qd [4] Tryz.func73 rfl rfl 25 Tryz.ntmps73 (Nat.le_of_ble_eq_true rfl) ?_
 intro E hN
 refine JK 0 rfl (fun hl0 => ?_)
 refine JA ?_
 refine Qi (fun x : {k : Nat // k ≤ (rs).length ∧ (rs.drop k).all (Yi l) = rs.all (Yi l)} => ⟨[(1, XU l), (7, rus rs), (8, i64 rs.length), (9, i64 (x.1 : Nat))], [], 0⟩) (fun x => (rs).length - x.1) (⟨0, Nat.zero_le _, by simp⟩) ?_ ?_
 ·
  exact Qa rfl (Jg ⟨(QE (by simp)), rfl, (Xu trivial)⟩) trivial
 rintro ⟨k, hk, hg⟩
 dsimp only
 refine QA ?_
 refine zq ?_ ?_ <;> intro h7
 rotate_left
 ·
  have hge : (rs).length ≤ k := by simpa using h7
  refine QJ ?_; refine zQ ?_
  exact Qt (X4 hg hge).symm
 have hlt : k < (rs).length := by simpa using h7
 obtain ⟨x, hx⟩ := Qk hlt
 refine QA ?_; refine zP (Qh rfl rfl rfl k rfl _ (Qq hx) rfl) ?_; refine JU ?_; refine zP (Qc (QbC _ l) rfl rfl rfl) ?_
 refine zM ?_
 refine zc 17 ?_ ?_ <;> intro h14
 rotate_left
 ·
  refine JA ?_; refine Qb ?_
  exact ⟨⟨k + 1, hlt, XF hg hx (by simp_all [Yi])⟩, Qa rfl (Xl ⟨(QE (by dsimp only; omega)), rfl, trivial⟩) trivial, by dsimp only; omega⟩
 refine QC ?_; refine uP (X7 h14) (Qc (QhJ l _) rfl rfl rfl) ?_; refine QC ?_
 refine zq ?_ ?_ <;> intro h17
 ·
  refine QC ?_; refine zQ ?_
  exact Qt (Q6 hg hx (by simp_all [Yi])).symm
 refine QJ ?_; refine Qb ?_
 exact ⟨⟨k + 1, hlt, XF hg hx (by simp_all [Yi])⟩, Qa rfl (Xl ⟨(QE (by dsimp only; omega)), rfl, trivial⟩) trivial, by dsimp only; omega⟩
theorem Qtn (s : List Nm) : FC Tryz.prog 71 [XU s] (bl true) := by
 refine Qd [2] Tryz.func71 rfl rfl 3 Tryz.ntmps71 (Nat.le_of_ble_eq_true rfl) ?_
 intro E hN
 refine Xz ?_; refine zQ ?_
 rfl
theorem Qo4 (l : Qs) (s : List Nm) : FC Tryz.prog 72 [XU s, .el (QF l)] (bl (Xf l.rs s)) := by
 refine Qd [3] Tryz.func72 rfl rfl 8 Tryz.ntmps72 (Nat.le_of_ble_eq_true rfl) ?_
 intro E hN
 refine JU ?_; refine zP (Qc (QmU l.rs s) rfl rfl rfl) ?_; refine zS ?_; refine zQ ?_
 rfl
def YB : List Nm → Nat → List Nm
 | [], _ => []
 | s :: r, b => if b % 2 = 1 then s :: YB r (b / 2) else YB r (b / 2)
theorem Qfi {s : Nm} : ∀ {l : List Nm} {k : Nat} (b : Nat), l[k]? = some s → YB (l.take (k + 1)) b = YB (l.take k) b ++ (if b / 2 ^ k % 2 = 1 then [s] else [])
 | [], k, b, h => by simp at h
 | a :: r, 0, b, h => by
  simp at h; subst h
  simp [YB]
 | a :: r, k + 1, b, h => by
  have ih := Qfi (k := k) (b / 2) (by simpa using h)
  rw [Nat.div_div_eq_div_mul, show 2 * 2 ^ k = 2 ^ (k + 1) by rw [Nat.pow_succ, Nat.mul_comm]] at ih
  rw [List.take_succ_cons, List.take_succ_cons]
  unfold YB
  split
  ·rw [ih]; rfl
  rw [ih]
theorem Kr {s : Nm} {l : List Nm} {k b : Nat} (h : l[k]? = some s) (hb : b / 2 ^ k % 2 = 1) : YB (l.take (k + 1)) b = YB (l.take k) b ++ [s] := by rw [Qfi b h, if_pos hb]
theorem K7 {s : Nm} {l : List Nm} {k b : Nat} (h : l[k]? = some s) (hb : ¬ b / 2 ^ k % 2 = 1) : YB (l.take (k + 1)) b = YB (l.take k) b := by rw [Qfi b h, if_neg hb, List.append_nil]
theorem QeN : ∀ (l : List Nm) (b : Nat), (YB l b).length ≤ l.length
 | [], _ => Nat.le_refl _
 | s :: r, b => by
  have := QeN r (b / 2)
  unfold YB
  split <;> simp <;> omega
def Qmb (s : List Nm) : Qn := .mk 0 s [] []
def X6 (acc : List Nm → Bool) (l : List Nm) (B : Nat) : List Qn := (((List.range B).map (YB l)).filter acc).map Qmb
theorem Xo {acc : List Nm → Bool} {l : List Nm} {b : Nat} (h : acc (YB l b) = true) : X6 acc l (b + 1) = X6 acc l b ++ [Qmb (YB l b)] := by
 unfold X6
 rw [List.range_succ, List.map_append, List.filter_append, List.map_append]
 simp [h]
theorem Js {acc : List Nm → Bool} {l : List Nm} {b : Nat} (h : acc (YB l b) = false) : X6 acc l (b + 1) = X6 acc l b := by
 unfold X6
 rw [List.range_succ, List.map_append, List.filter_append, List.map_append]
 simp [h]
theorem QaN {acc : List Nm → Bool} {l : List Nm} (b : Nat) : ∀ d, (X6 acc l b).length ≤ (X6 acc l (b + d)).length
 | 0 => Nat.le_refl _
 | d + 1 => by
  refine Nat.le_trans (QaN b d) ?_
  rw [show b + (d + 1) = (b + d) + 1 from rfl]
  cases h : acc (YB l (b + d)) with
  | true => rw [Xo h]; simp
  | false => rw [Js h]; exact Nat.le_refl _
theorem QfB {n : Nat} (h : n ≤ 12) : 2 ^ n ≤ 4096 := Nat.pow_le_pow_right (by decide) h
theorem QaD (s : List Nm) : Qg 4 1 [i64 0, XU s, .sl [] none, .sl [] none] = [Xx (Qmb s)] := by rw [X3]; rfl
theorem Qg5 {b i : Nat} (h : b ≤ 4096) : b / 2 ^ i < 2 ^ 62 := Nat.lt_of_le_of_lt (Nat.div_le_self _ _) (by omega)
theorem QnA {g : FuncId} [Xe Tryz.prog g] {acc : List Nm → Bool} (l : List Nm) (hl : l.length ≤ 12) (hc : ∀ s, FC Tryz.prog g (XU s :: []) (bl (acc s))) (h256 : (X6 acc l (2 ^ l.length)).length ≤ 256) : GV 70 [XU l, .fn g []] (X6 acc l (2 ^ l.length)) 0 1 := by
 refine JC [4, 5] Tryz.func70 rfl rfl 47 Tryz.ntmps70 (Nat.le_of_ble_eq_true rfl) ?_
 intro E hN
 refine JK 0 rfl (fun hl0 => ?_)
 have hp := QfB hl
 refine WG ?_
 refine zP (QmE rfl rfl rfl (by rw [List.length_map]; omega)) ?_
 refine QC ?_; refine Qu (Yu rfl 6 30 4 rfl) ?_
 refine Qi (fun x : {b : Nat // b ≤ 2 ^ l.length ∧ (X6 acc l b).length ≤ 256} => ⟨[(0, XU l), (1, .fn g []), (6, .own 0 (X6 acc l x.1).length), (13, i64 (2 ^ l.length : Nat)), (14, i64 (x.1 : Nat))], [(0, .arr 30 4 ((X6 acc l x.1).map Xx))], 1⟩) (fun x => 2 ^ l.length - x.1) (⟨0, Nat.zero_le _, by simp [X6]⟩) ?_ ?_
 ·
  exact Qa rfl (Xl ⟨(QE (by rw [List.length_map])), rfl, (Xu trivial)⟩) ⟨rfl, rfl, (Qw _), trivial⟩
 rintro ⟨b, hb, gb⟩
 dsimp only
 refine QA ?_
 refine zq ?_ ?_ <;> intro h10
 rotate_left
 ·
  have geb : 2 ^ l.length ≤ b := by have := of_decide_eq_false h10; omega
  obtain rfl : 2 ^ l.length = b := by omega
  refine Xz ?_; refine QG ?_
  change (YK _ _).ntt = _ ∧ _
  refine WN rfl ?_ rfl rfl rfl ⟨rfl, rfl, Qw _, trivial⟩
  rfl
 have ltb : b < 2 ^ l.length := by have := of_decide_eq_true h10; omega
 refine Qis ?_; refine Qu (Yu rfl 8 9 1 rfl) ?_
 refine Qi (fun x : {i : Nat // i ≤ l.length ∧ True} => ⟨[(0, XU l), (1, .fn g []), (6, .own 0 (X6 acc l b).length), (13, i64 (2 ^ l.length : Nat)), (14, i64 (b : Nat)), (7, i64 (b : Nat)), (8, .own 1 (YB (l.take x.1) b).length), (17, XU l), (18, i64 l.length), (19, i64 (x.1 : Nat))], [(0, .arr 30 4 ((X6 acc l b).map Xx)), (1, .arr 9 1 ((YB (l.take x.1) b).map WS))], 2⟩) (fun x => l.length - x.1) (⟨0, Nat.zero_le _, by trivial⟩) ?_ ?_
 ·
  exact Qa rfl (QR (QR ⟨(QE (by simp)), rfl, (Xu trivial)⟩)) ⟨rfl, rfl, (Qw _), rfl, rfl, (QN (fun _ => rfl) _), trivial⟩
 rintro ⟨i, hi, gi⟩
 dsimp only
 refine QA ?_
 refine zq ?_ ?_ <;> intro h22
 ·
  have lti : i < l.length := by simpa using h22
  obtain ⟨s, hls⟩ := Qk lti
  refine Je ?_; refine zP (Qh rfl rfl rfl i rfl _ (Qq hls) rfl) ?_; refine XJ ?_; refine zP (Qnf rfl rfl rfl (by omega)) ?_
  refine zP (QmK rfl rfl rfl (Qg5 (by omega))) ?_; refine QO ?_
  refine zq ?_ ?_ <;> intro h27
  ·
   have h9 : b / 2 ^ i % 2 = 1 := Int.ofNat.inj (eq_of_beq h27)
   refine QC ?_; refine zP (Qj rfl rfl rfl rfl (by exact rfl) (by decide) (by decide)) ?_
   refine Xb hN rfl rfl rfl (by simp) rfl rfl (by rfl) (by have := QeN (l.take i) b; simp [Qg]; simp at this; omega) rfl rfl rfl rfl ?_
   refine QA ?_; refine Qb ?_
   exact ⟨⟨i + 1, lti, trivial⟩, Qa rfl (QR (Jg ⟨(Kq (by first | rw [K7 hls h9] | (rw [Kr hls h9]; simp [Qg]))), rfl, (Jg ⟨(QE (by dsimp only; omega)), rfl, trivial⟩)⟩)) ⟨rfl, rfl, (Qw _), (Yl (by first | rw [K7 hls h9] | (rw [Kr hls h9, List.map_append]; rfl))), rfl, (QN (fun _ => rfl) _), trivial⟩, by dsimp only; omega⟩
  have h9 : ¬ b / 2 ^ i % 2 = 1 := fun e => ne_of_beq_false h27 (by rw [e]; rfl)
  refine QJ ?_; refine Qb ?_
  exact ⟨⟨i + 1, lti, trivial⟩, Qa rfl (QR (Jg ⟨(Kq (by first | rw [K7 hls h9] | (rw [Kr hls h9]; simp [Qg]))), rfl, (Jg ⟨(QE (by dsimp only; omega)), rfl, trivial⟩)⟩)) ⟨rfl, rfl, (Qw _), (Yl (by first | rw [K7 hls h9] | (rw [Kr hls h9, List.map_append]; rfl))), rfl, (QN (fun _ => rfl) _), trivial⟩, by dsimp only; omega⟩
 have gei : l.length ≤ i := by simpa using h22
 obtain rfl : l.length = i := by omega
 refine QC ?_
 have hsel : YB (l.take l.length) b = YB l b := by rw [List.take_of_length_le (Nat.le_refl _)]
 rw [hsel]
 refine Qu (QB 8 1 rfl rfl (by simp) (XA (fun _ => rfl) _) (JB (fun _ => rfl) _) rfl) ?_; refine QC ?_
 refine zP (YG (hc (YB l b)) rfl rfl rfl rfl) ?_; refine zN ?_
 refine zq ?_ ?_ <;> intro h32
 ·
  have h12 : acc (YB l b) = true := h32
  refine QJ ?_; refine zP (Qj rfl rfl rfl rfl (by exact rfl) (by decide) (by decide)) ?_
  refine Xb hN rfl rfl rfl (by simp) rfl rfl (by rfl) (by simp [Qg]; omega) rfl rfl rfl rfl ?_
  refine QA ?_; refine zP (Yn rfl rfl (by rfl) (by simp)) ?_; refine QO ?_
  refine zq ?_ ?_ <;> intro h37
  ·
   exfalso
   have h14 := of_decide_eq_true h37
   have hm := QaN (acc := acc) (l := l) (b + 1) (2 ^ l.length - (b + 1))
   rw [show b + 1 + (2 ^ l.length - (b + 1)) = 2 ^ l.length by omega] at hm
   first
    | (rw [Xo h12] at hm; simp [Qg] at hm h14; omega)
    | (rw [Js h12] at hm; simp at hm h14; omega)
  have h14 := of_decide_eq_false h37
  refine QJ ?_; refine Qb ?_
  exact ⟨⟨b + 1, ltb, (by first | (rw [Js h12]; omega) | (have h15 := h14; rw [List.length_map] at h15; rw [Xo h12, List.length_append, List.length_singleton]; omega) | (rw [Xo h12, List.length_append]; have h15 := h14; simp [Qg] at h15 ⊢; omega))⟩, Qa rfl (Jg ⟨(Kq (by first | rw [Js h12] | (rw [Xo h12]; simp [Qg]))), rfl, rfl, rfl, (QE (by dsimp only; omega)), rfl, trivial⟩) ⟨(Yl (by first | rw [Js h12] | (rw [Xo h12, List.map_append, List.map_cons, List.map_nil, ← QaD]))), rfl, (Qw _), trivial⟩, by dsimp only; omega⟩
 have h12 : acc (YB l b) = false := h32
 refine QJ ?_; refine zP (Yn rfl rfl (by rfl) (by simp)) ?_; refine QO ?_
 refine zq ?_ ?_ <;> intro h40
 ·
  exfalso
  have h14 := of_decide_eq_true h40
  have hm := QaN (acc := acc) (l := l) (b + 1) (2 ^ l.length - (b + 1))
  rw [show b + 1 + (2 ^ l.length - (b + 1)) = 2 ^ l.length by omega] at hm
  first
   | (rw [Xo h12] at hm; simp [Qg] at hm h14; omega)
   | (rw [Js h12] at hm; simp at hm h14; omega)
 have h14 := of_decide_eq_false h40
 refine QJ ?_; refine Qb ?_
 exact ⟨⟨b + 1, ltb, (by first | (rw [Js h12]; omega) | (have h15 := h14; rw [List.length_map] at h15; rw [Xo h12, List.length_append, List.length_singleton]; omega) | (rw [Xo h12, List.length_append]; have h15 := h14; simp [Qg] at h15 ⊢; omega))⟩, Qa rfl (Jg ⟨(Kq (by first | rw [Js h12] | (rw [Xo h12]; simp [Qg]))), rfl, rfl, rfl, (QE (by dsimp only; omega)), rfl, trivial⟩) ⟨(Yl (by first | rw [Js h12] | (rw [Xo h12, List.map_append, List.map_cons, List.map_nil, ← QaD]))), rfl, (Qw _), trivial⟩, by dsimp only; omega⟩
theorem Qmi {g : FuncId} [Xe Tryz.prog g] {cs : List AV} {acc : List Nm → Bool} (l : List Nm) (hl : l.length ≤ 12) (hc : ∀ s, FC Tryz.prog g (XU s :: [.el cs]) (bl (acc s))) (h256 : (X6 acc l (2 ^ l.length)).length ≤ 256) : GV 70 [XU l, .fn g [.el cs]] (X6 acc l (2 ^ l.length)) 0 1 := by
 refine JC [4, 5] Tryz.func70 rfl rfl 47 Tryz.ntmps70 (Nat.le_of_ble_eq_true rfl) ?_
 intro E hN
 refine JK 0 rfl (fun hl0 => ?_)
 have hp := QfB hl
 refine WG ?_
 refine zP (QmE rfl rfl rfl (by rw [List.length_map]; omega)) ?_
 refine QC ?_; refine Qu (Yu rfl 6 30 4 rfl) ?_
 refine Qi (fun x : {b : Nat // b ≤ 2 ^ l.length ∧ (X6 acc l b).length ≤ 256} => ⟨[(0, XU l), (1, .fn g [.el cs]), (6, .own 0 (X6 acc l x.1).length), (13, i64 (2 ^ l.length : Nat)), (14, i64 (x.1 : Nat))], [(0, .arr 30 4 ((X6 acc l x.1).map Xx))], 1⟩) (fun x => 2 ^ l.length - x.1) (⟨0, Nat.zero_le _, by simp [X6]⟩) ?_ ?_
 ·
  exact Qa rfl (Xl ⟨(QE (by rw [List.length_map])), rfl, (Xu trivial)⟩) ⟨rfl, rfl, (Qw _), trivial⟩
 rintro ⟨b, hb, gb⟩
 dsimp only
 refine QA ?_
 refine zq ?_ ?_ <;> intro h10
 rotate_left
 ·
  have geb : 2 ^ l.length ≤ b := by have := of_decide_eq_false h10; omega
  obtain rfl : 2 ^ l.length = b := by omega
  refine Xz ?_; refine QG ?_
  change (YK _ _).ntt = _ ∧ _
  refine WN rfl ?_ rfl rfl rfl ⟨rfl, rfl, Qw _, trivial⟩
  rfl
 have ltb : b < 2 ^ l.length := by have := of_decide_eq_true h10; omega
 refine Qis ?_; refine Qu (Yu rfl 8 9 1 rfl) ?_
 refine Qi (fun x : {i : Nat // i ≤ l.length ∧ True} => ⟨[(0, XU l), (1, .fn g [.el cs]), (6, .own 0 (X6 acc l b).length), (13, i64 (2 ^ l.length : Nat)), (14, i64 (b : Nat)), (7, i64 (b : Nat)), (8, .own 1 (YB (l.take x.1) b).length), (17, XU l), (18, i64 l.length), (19, i64 (x.1 : Nat))], [(0, .arr 30 4 ((X6 acc l b).map Xx)), (1, .arr 9 1 ((YB (l.take x.1) b).map WS))], 2⟩) (fun x => l.length - x.1) (⟨0, Nat.zero_le _, by trivial⟩) ?_ ?_
 ·
  exact Qa rfl (QR (QR ⟨(QE (by simp)), rfl, (Xu trivial)⟩)) ⟨rfl, rfl, (Qw _), rfl, rfl, (QN (fun _ => rfl) _), trivial⟩
 rintro ⟨i, hi, gi⟩
 dsimp only
 refine QA ?_
 refine zq ?_ ?_ <;> intro h22
 ·
  have lti : i < l.length := by simpa using h22
  obtain ⟨s, hls⟩ := Qk lti
  refine Je ?_; refine zP (Qh rfl rfl rfl i rfl _ (Qq hls) rfl) ?_; refine XJ ?_; refine zP (Qnf rfl rfl rfl (by omega)) ?_
  refine zP (QmK rfl rfl rfl (Qg5 (by omega))) ?_; refine QO ?_
  refine zq ?_ ?_ <;> intro h27
  ·
   have h9 : b / 2 ^ i % 2 = 1 := Int.ofNat.inj (eq_of_beq h27)
   refine QC ?_; refine zP (Qj rfl rfl rfl rfl (by exact rfl) (by decide) (by decide)) ?_
   refine Xb hN rfl rfl rfl (by simp) rfl rfl (by rfl) (by have := QeN (l.take i) b; simp [Qg]; simp at this; omega) rfl rfl rfl rfl ?_
   refine QA ?_; refine Qb ?_
   exact ⟨⟨i + 1, lti, trivial⟩, Qa rfl (QR (Jg ⟨(Kq (by first | rw [K7 hls h9] | (rw [Kr hls h9]; simp [Qg]))), rfl, (Jg ⟨(QE (by dsimp only; omega)), rfl, trivial⟩)⟩)) ⟨rfl, rfl, (Qw _), (Yl (by first | rw [K7 hls h9] | (rw [Kr hls h9, List.map_append]; rfl))), rfl, (QN (fun _ => rfl) _), trivial⟩, by dsimp only; omega⟩
  have h9 : ¬ b / 2 ^ i % 2 = 1 := fun e => ne_of_beq_false h27 (by rw [e]; rfl)
  refine QJ ?_; refine Qb ?_
  exact ⟨⟨i + 1, lti, trivial⟩, Qa rfl (QR (Jg ⟨(Kq (by first | rw [K7 hls h9] | (rw [Kr hls h9]; simp [Qg]))), rfl, (Jg ⟨(QE (by dsimp only; omega)), rfl, trivial⟩)⟩)) ⟨rfl, rfl, (Qw _), (Yl (by first | rw [K7 hls h9] | (rw [Kr hls h9, List.map_append]; rfl))), rfl, (QN (fun _ => rfl) _), trivial⟩, by dsimp only; omega⟩
 have gei : l.length ≤ i := by simpa using h22
 obtain rfl : l.length = i := by omega
 refine QC ?_
 have hsel : YB (l.take l.length) b = YB l b := by rw [List.take_of_length_le (Nat.le_refl _)]
 rw [hsel]
 refine Qu (QB 8 1 rfl rfl (by simp) (XA (fun _ => rfl) _) (JB (fun _ => rfl) _) rfl) ?_; refine QC ?_
 refine zP (YG (hc (YB l b)) rfl rfl rfl rfl) ?_; refine zN ?_
 refine zq ?_ ?_ <;> intro h32
 ·
  have h12 : acc (YB l b) = true := h32
  refine QJ ?_; refine zP (Qj rfl rfl rfl rfl (by exact rfl) (by decide) (by decide)) ?_
  refine Xb hN rfl rfl rfl (by simp) rfl rfl (by rfl) (by simp [Qg]; omega) rfl rfl rfl rfl ?_
  refine QA ?_; refine zP (Yn rfl rfl (by rfl) (by simp)) ?_; refine QO ?_
  refine zq ?_ ?_ <;> intro h37
  ·
   exfalso
   have h14 := of_decide_eq_true h37
   have hm := QaN (acc := acc) (l := l) (b + 1) (2 ^ l.length - (b + 1))
   rw [show b + 1 + (2 ^ l.length - (b + 1)) = 2 ^ l.length by omega] at hm
   first
    | (rw [Xo h12] at hm; simp [Qg] at hm h14; omega)
    | (rw [Js h12] at hm; simp at hm h14; omega)
  have h14 := of_decide_eq_false h37
  refine QJ ?_; refine Qb ?_
  exact ⟨⟨b + 1, ltb, (by first | (rw [Js h12]; omega) | (have h15 := h14; rw [List.length_map] at h15; rw [Xo h12, List.length_append, List.length_singleton]; omega) | (rw [Xo h12, List.length_append]; have h15 := h14; simp [Qg] at h15 ⊢; omega))⟩, Qa rfl (Jg ⟨(Kq (by first | rw [Js h12] | (rw [Xo h12]; simp [Qg]))), rfl, rfl, rfl, (QE (by dsimp only; omega)), rfl, trivial⟩) ⟨(Yl (by first | rw [Js h12] | (rw [Xo h12, List.map_append, List.map_cons, List.map_nil, ← QaD]))), rfl, (Qw _), trivial⟩, by dsimp only; omega⟩
 have h12 : acc (YB l b) = false := h32
 refine QJ ?_; refine zP (Yn rfl rfl (by rfl) (by simp)) ?_; refine QO ?_
 refine zq ?_ ?_ <;> intro h40
 ·
  exfalso
  have h14 := of_decide_eq_true h40
  have hm := QaN (acc := acc) (l := l) (b + 1) (2 ^ l.length - (b + 1))
  rw [show b + 1 + (2 ^ l.length - (b + 1)) = 2 ^ l.length by omega] at hm
  first
   | (rw [Xo h12] at hm; simp [Qg] at hm h14; omega)
   | (rw [Js h12] at hm; simp at hm h14; omega)
 have h14 := of_decide_eq_false h40
 refine QJ ?_; refine Qb ?_
 exact ⟨⟨b + 1, ltb, (by first | (rw [Js h12]; omega) | (have h15 := h14; rw [List.length_map] at h15; rw [Xo h12, List.length_append, List.length_singleton]; omega) | (rw [Xo h12, List.length_append]; have h15 := h14; simp [Qg] at h15 ⊢; omega))⟩, Qa rfl (Jg ⟨(Kq (by first | rw [Js h12] | (rw [Xo h12]; simp [Qg]))), rfl, rfl, rfl, (QE (by dsimp only; omega)), rfl, trivial⟩) ⟨(Yl (by first | rw [Js h12] | (rw [Xo h12, List.map_append, List.map_cons, List.map_nil, ← QaD]))), rfl, (Qw _), trivial⟩, by dsimp only; omega⟩
theorem QjD {g : FuncId} [Xe Tryz.prog g] {cs : List AV} {acc : List Nm → Bool} (l : List Nm) (hl : l.length ≤ 12) (hc : ∀ s, FC Tryz.prog g (XU s :: [.el cs]) (bl (acc s))) (h256 : 256 < (X6 acc l (2 ^ l.length)).length) : FC Tryz.prog 70 [XU l, .fn g [.el cs]] (.tup [.sl [] none, bl false]) := by
 refine Qd [4, 5] Tryz.func70 rfl rfl 47 Tryz.ntmps70 (Nat.le_of_ble_eq_true rfl) ?_
 intro E hN
 refine JK 0 rfl (fun hl0 => ?_)
 have hp := QfB hl
 refine WG ?_
 refine zP (QmE rfl rfl rfl (by rw [List.length_map]; omega)) ?_
 refine QC ?_; refine Qu (Yu rfl 6 30 4 rfl) ?_
 refine Qi (fun x : {b : Nat // b ≤ 2 ^ l.length ∧ (X6 acc l b).length ≤ 256} => ⟨[(0, XU l), (1, .fn g [.el cs]), (6, .own 0 (X6 acc l x.1).length), (13, i64 (2 ^ l.length : Nat)), (14, i64 (x.1 : Nat))], [(0, .arr 30 4 ((X6 acc l x.1).map Xx))], 1⟩) (fun x => 2 ^ l.length - x.1) (⟨0, Nat.zero_le _, by simp [X6]⟩) ?_ ?_
 ·
  exact Qa rfl (Xl ⟨(QE (by rw [List.length_map])), rfl, (Xu trivial)⟩) ⟨rfl, rfl, (Qw _), trivial⟩
 rintro ⟨b, hb, gb⟩
 dsimp only
 refine QA ?_
 refine zq ?_ ?_ <;> intro h10
 rotate_left
 ·
  exfalso
  have geb : 2 ^ l.length ≤ b := by have := of_decide_eq_false h10; omega
  obtain rfl : 2 ^ l.length = b := by omega
  omega
 have ltb : b < 2 ^ l.length := by have := of_decide_eq_true h10; omega
 refine Qis ?_; refine Qu (Yu rfl 8 9 1 rfl) ?_
 refine Qi (fun x : {i : Nat // i ≤ l.length ∧ True} => ⟨[(0, XU l), (1, .fn g [.el cs]), (6, .own 0 (X6 acc l b).length), (13, i64 (2 ^ l.length : Nat)), (14, i64 (b : Nat)), (7, i64 (b : Nat)), (8, .own 1 (YB (l.take x.1) b).length), (17, XU l), (18, i64 l.length), (19, i64 (x.1 : Nat))], [(0, .arr 30 4 ((X6 acc l b).map Xx)), (1, .arr 9 1 ((YB (l.take x.1) b).map WS))], 2⟩) (fun x => l.length - x.1) (⟨0, Nat.zero_le _, by trivial⟩) ?_ ?_
 ·
  exact Qa rfl (QR (QR ⟨(QE (by simp)), rfl, (Xu trivial)⟩)) ⟨rfl, rfl, (Qw _), rfl, rfl, (QN (fun _ => rfl) _), trivial⟩
 rintro ⟨i, hi, gi⟩
 dsimp only
 refine QA ?_
 refine zq ?_ ?_ <;> intro h22
 ·
  have lti : i < l.length := by simpa using h22
  obtain ⟨s, hls⟩ := Qk lti
  refine Je ?_; refine zP (Qh rfl rfl rfl i rfl _ (Qq hls) rfl) ?_; refine XJ ?_; refine zP (Qnf rfl rfl rfl (by omega)) ?_
  refine zP (QmK rfl rfl rfl (Qg5 (by omega))) ?_; refine QO ?_
  refine zq ?_ ?_ <;> intro h27
  ·
   have h9 : b / 2 ^ i % 2 = 1 := Int.ofNat.inj (eq_of_beq h27)
   refine QC ?_; refine zP (Qj rfl rfl rfl rfl (by exact rfl) (by decide) (by decide)) ?_
   refine Xb hN rfl rfl rfl (by simp) rfl rfl (by rfl) (by have := QeN (l.take i) b; simp [Qg]; simp at this; omega) rfl rfl rfl rfl ?_
   refine QA ?_; refine Qb ?_
   exact ⟨⟨i + 1, lti, trivial⟩, Qa rfl (QR (Jg ⟨(Kq (by first | rw [K7 hls h9] | (rw [Kr hls h9]; simp [Qg]))), rfl, (Jg ⟨(QE (by dsimp only; omega)), rfl, trivial⟩)⟩)) ⟨rfl, rfl, (Qw _), (Yl (by first | rw [K7 hls h9] | (rw [Kr hls h9, List.map_append]; rfl))), rfl, (QN (fun _ => rfl) _), trivial⟩, by dsimp only; omega⟩
  have h9 : ¬ b / 2 ^ i % 2 = 1 := fun e => ne_of_beq_false h27 (by rw [e]; rfl)
  refine QJ ?_; refine Qb ?_
  exact ⟨⟨i + 1, lti, trivial⟩, Qa rfl (QR (Jg ⟨(Kq (by first | rw [K7 hls h9] | (rw [Kr hls h9]; simp [Qg]))), rfl, (Jg ⟨(QE (by dsimp only; omega)), rfl, trivial⟩)⟩)) ⟨rfl, rfl, (Qw _), (Yl (by first | rw [K7 hls h9] | (rw [Kr hls h9, List.map_append]; rfl))), rfl, (QN (fun _ => rfl) _), trivial⟩, by dsimp only; omega⟩
 have gei : l.length ≤ i := by simpa using h22
 obtain rfl : l.length = i := by omega
 refine QC ?_
 have hsel : YB (l.take l.length) b = YB l b := by rw [List.take_of_length_le (Nat.le_refl _)]
 rw [hsel]
 refine Qu (QB 8 1 rfl rfl (by simp) (XA (fun _ => rfl) _) (JB (fun _ => rfl) _) rfl) ?_; refine QC ?_
 refine zP (YG (hc (YB l b)) rfl rfl rfl rfl) ?_; refine zN ?_
 refine zq ?_ ?_ <;> intro h32
 ·
  have h12 : acc (YB l b) = true := h32
  refine QJ ?_; refine zP (Qj rfl rfl rfl rfl (by exact rfl) (by decide) (by decide)) ?_
  refine Xb hN rfl rfl rfl (by simp) rfl rfl (by rfl) (by simp [Qg]; omega) rfl rfl rfl rfl ?_
  refine QA ?_; refine zP (Yn rfl rfl (by rfl) (by simp)) ?_; refine QO ?_
  refine zq ?_ ?_ <;> intro h37
  ·
   have h14 := of_decide_eq_true h37
   refine QJ ?_; refine zQ ?_
   rfl
  have h14 := of_decide_eq_false h37
  refine QJ ?_; refine Qb ?_
  exact ⟨⟨b + 1, ltb, (by first | (rw [Js h12]; omega) | (have h15 := h14; rw [List.length_map] at h15; rw [Xo h12, List.length_append, List.length_singleton]; omega) | (rw [Xo h12, List.length_append]; have h15 := h14; simp [Qg] at h15 ⊢; omega))⟩, Qa rfl (Jg ⟨(Kq (by first | rw [Js h12] | (rw [Xo h12]; simp [Qg]))), rfl, rfl, rfl, (QE (by dsimp only; omega)), rfl, trivial⟩) ⟨(Yl (by first | rw [Js h12] | (rw [Xo h12, List.map_append, List.map_cons, List.map_nil, ← QaD]))), rfl, (Qw _), trivial⟩, by dsimp only; omega⟩
 have h12 : acc (YB l b) = false := h32
 refine QJ ?_; refine zP (Yn rfl rfl (by rfl) (by simp)) ?_; refine QO ?_
 refine zq ?_ ?_ <;> intro h40
 ·
  have h14 := of_decide_eq_true h40
  refine QJ ?_; refine zQ ?_
  rfl
 have h14 := of_decide_eq_false h40
 refine QJ ?_; refine Qb ?_
 exact ⟨⟨b + 1, ltb, (by first | (rw [Js h12]; omega) | (have h15 := h14; rw [List.length_map] at h15; rw [Xo h12, List.length_append, List.length_singleton]; omega) | (rw [Xo h12, List.length_append]; have h15 := h14; simp [Qg] at h15 ⊢; omega))⟩, Qa rfl (Jg ⟨(Kq (by first | rw [Js h12] | (rw [Xo h12]; simp [Qg]))), rfl, rfl, rfl, (QE (by dsimp only; omega)), rfl, trivial⟩) ⟨(Yl (by first | rw [Js h12] | (rw [Xo h12, List.map_append, List.map_cons, List.map_nil, ← QaD]))), rfl, (Qw _), trivial⟩, by dsimp only; omega⟩
theorem QrD {g : FuncId} [Xe Tryz.prog g] {cs : List AV} {q : Qn → Bool} (l : List Qn) (hc : ∀ y ∈ l, FC Tryz.prog g [.agg (Xm y), .el cs] (bl (q y))) : FC Tryz.prog 110 [JM l, .fn g [.el cs]] (i64 (WD q l 0)) := by
 refine Qd [4] Tryz.func110 rfl rfl 19 Tryz.ntmps110 (Nat.le_of_ble_eq_true rfl) ?_
 intro E hN
 refine JK 0 rfl (fun hl0 => ?_)
 refine JA ?_
 refine Qi (fun x : {k : Nat // k ≤ (l).length ∧ WD q (l.drop k) k = WD q l 0} => ⟨[(0, JM l), (1, .fn g [.el cs]), (7, i64 l.length), (8, i64 (x.1 : Nat))], [], 0⟩) (fun x => (l).length - x.1) (⟨0, Nat.zero_le _, by simp⟩) ?_ ?_
 ·
  exact Qa rfl (Jg ⟨(QE (by simp)), rfl, (Xu trivial)⟩) trivial
 rintro ⟨k, hk, hg⟩
 dsimp only
 refine QA ?_
 refine zq ?_ ?_ <;> intro h8
 rotate_left
 ·
  have hge : (l).length ≤ k := by simpa using h8
  refine QJ ?_; refine zQ ?_
  exact Q2 (by rw [← hg, List.drop_of_length_le hge]; rfl)
 have hlt : k < (l).length := by simpa using h8
 obtain ⟨x, hx⟩ := Qk hlt
 have hs : WD q l 0 = if q x then (k : Int) else WD q (l.drop (k + 1)) (k + 1) := by rw [← hg, XL hx]; rfl
 refine Wi ?_; refine zP (Qh rfl rfl rfl k rfl _ (Xk hx) rfl) ?_; refine zL ?_
 refine zP (YG (hc x (List.mem_of_getElem? hx)) rfl rfl rfl rfl) ?_; refine zN ?_
 refine zq ?_ ?_ <;> intro h11
 ·
  have h4 := h11
  refine QJ ?_; refine zQ ?_
  exact Q2 (by rw [hs, if_pos (by simp_all)])
 have hn : WD q (l.drop (k + 1)) (k + 1) = WD q l 0 := by rw [hs, if_neg (by simp_all)]
 refine QJ ?_; refine Qb ?_
 exact ⟨⟨k + 1, hlt, hn⟩, Qa rfl (Xl ⟨(QE (by dsimp only; omega)), rfl, trivial⟩) trivial, by dsimp only; omega⟩
theorem QfF {α : Type} (q : α → Bool) : ∀ (l : List α) (i : Nat), (WD q l i = -1 ∧ l.filter (fun x => !q x) = l) ∨ ∃ k, k < l.length ∧ WD q l i = ((i + k : Nat) : Int) ∧ (l.take (k + 1)).filter (fun x => !q x) = l.take k
 | [], i => .inl ⟨rfl, rfl⟩
 | x :: l, i => by
  unfold WD
  cases h : q x with
  | true => exact .inr ⟨0, by simp, by simp, by simp [h]⟩
  | false =>
   rcases QfF q l (i + 1) with ⟨h1, h2⟩ | ⟨k, h1, h2, h3⟩
   ·exact .inl ⟨by simpa using h1, by simp [h, h2]⟩
   refine .inr ⟨k + 1, by simp; omega, by rw [if_neg (by simp), h2]; congr 1; omega, ?_⟩
   rw [List.take_succ_cons, List.filter_cons_of_pos (by simp [h]), h3, List.take_succ_cons]
theorem Qws {P : Program} {E : J1} {st : St} {o : Oper} {n : Nat} {tt : TypeId} {x y : Operand} (ho : o.op = .slice tt x none (some y) none) {e : TypeId} [hT : JV P tt e n] {es : List (List AV)} {tk : Option Nat} (hx : X0 st x = some (.sl es tk)) {k : IntKind} {i : Int} (hy : X0 st y = some (.p (.int k i)))
  (h : Nat) (hi : i = (h : Int)) (hh : h ≤ es.length) (hn : ∀ e ∈ es, e.length = n) : PY P E o st (.sl (es.take h) none) := by
 have := QhK (P := P) (E := E) (st := st) tt x none (some y) ho es tk (QT hx) 0 h (.inl ⟨rfl, rfl⟩) (.inr ⟨y, k, rfl, by rw [QT hy, hi]⟩) (Nat.zero_le _) hh hn
 simpa using this
structure DfI (q : Qn → Bool) (l : List Qn) (i j : Nat) (g : List Qn) : Prop where
 lt : i < j
 le : j ≤ l.length
 len : g.length = l.length
 kept : g.take i = (l.take j).filter (fun x => !q x)
 rest : g.drop j = l.drop j
theorem DfI.get {q : Qn → Bool} {l : List Qn} {i j : Nat} {g : List Qn} {x : Qn} (h : DfI q l i j g) (hx : l[j]? = some x) : g[j]? = some x := by
 have h1 := congrArg (·[0]?) h.rest
 simp only [List.getElem?_drop, Nat.add_zero] at h1
 rw [h1, hx]
theorem DfI.keep {q : Qn → Bool} {l : List Qn} {i j : Nat} {g : List Qn} {x : Qn} (h : DfI q l i j g) (hx : l[j]? = some x) (hq : q x = false) : DfI q l (i + 1) (j + 1) (g.set i x) := by
 have hj := (List.getElem?_eq_some_iff.1 hx).1
 have := h.lt
 have hi : i < g.length := by rw [h.len]; omega
 refine ⟨by omega, hj, by rw [List.length_set, h.len], ?_, ?_⟩
 ·rw [List.take_add_one, List.getElem?_set_self hi, List.take_set_of_le (Nat.le_refl i), h.kept, List.take_add_one, hx, List.filter_append]
  simp [hq]
 rw [List.drop_set_of_lt (by omega)]
 have := congrArg (List.drop 1) h.rest
 rwa [List.drop_drop, List.drop_drop] at this
theorem DfI.drop {q : Qn → Bool} {l : List Qn} {i j : Nat} {g : List Qn} {x : Qn} (h : DfI q l i j g) (hx : l[j]? = some x) (hq : q x = true) : DfI q l i (j + 1) g := by
 have hj := (List.getElem?_eq_some_iff.1 hx).1
 have := h.lt
 refine ⟨by omega, hj, h.len, ?_, ?_⟩
 ·rw [h.kept, List.take_add_one, hx, List.filter_append]
  simp [hq]
 have := congrArg (List.drop 1) h.rest
 rwa [List.drop_drop, List.drop_drop] at this
theorem Qgw {l : List Qn} : ∀ e ∈ l.map Xx, e.length = 4 := fun e he => by
 obtain ⟨v, -, rfl⟩ := List.mem_map.1 he
 rw [X3]; rfl
theorem QlH {l : List Qn} {i : Nat} {x : Qn} : (l.map Xx).set i (Xm x) = (l.set i x).map Xx := by rw [← X3, List.map_set]
theorem Qwp (c : Cx) (i : Nat) (u : Value) (y : AV) (hu : [Value.int .i64 0, .slice none 0 0, .slice none 0 0, .slice none 0 0][i]? = some u) (hy : (Xm Qn.zero)[i]? = some y) : VR c u y := by
 match i, hu, hy with
 | 0, hu, hy => cases hu; cases hy; exact .fr _ _ (.p _)
 | 1, hu, hy => cases hu; cases hy; exact .fr _ _ (.nil _ _ _ _ (Nat.zero_le _))
 | 2, hu, hy => cases hu; cases hy; exact .fr _ _ (.nil _ _ _ _ (Nat.zero_le _))
 | 3, hu, hy => cases hu; cases hy; exact .fr _ _ (.nil _ _ _ _ (Nat.zero_le _))
 | i + 4, hu, _ => simp at hu
theorem QwC {l : List Qn} {i m : Nat} : (l.map Xx).take i ++ List.replicate m (Xm Qn.zero) = (l.take i ++ List.replicate m Qn.zero).map Xx := by
 rw [List.map_append, List.map_take, List.map_replicate, X3]
theorem QnS {g : FuncId} [Xe Tryz.prog g] {cs : List AV} {q : Qn → Bool} (l : List Qn) (hc : ∀ y ∈ l, FC Tryz.prog g [.agg (Xm y), .el cs] (bl (q y))) (hl6 : l.length ≤ 1000000) : GX Tryz.prog 74 [.own Ju l.length, .fn g [.el cs]] [(Ju, .arr 30 4 (l.map Xx))] (JM (l.filter fun x => !q x)) [] 0 := by
 refine JC [4] Tryz.func74 rfl rfl 42 Tryz.ntmps74 (Nat.le_of_ble_eq_true rfl) ?_
 intro E hN
 
 refine XJ ?_; refine zP (Qg9 (QrD l hc) rfl rfl rfl (.cons (.own rfl (by simp) (QS l) (Qp l)) (.cons (.fz rfl) .nil))) ?_
 refine XJ ?_
 refine zq ?_ ?_ <;> intro h4
 ·
  have h2 := eq_of_beq h4
  have hfl : (l.filter fun x => !q x) = l := by
   rcases QfF q l 0 with ⟨-, h⟩ | ⟨k, -, h, -⟩
   ·exact h
   rw [h2] at h; omega
  refine KO ?_; refine Qu (QB 0 Ju rfl rfl (by simp) (QS l) (Qp l) rfl) ?_; refine QJ ?_; refine QG ?_
  change (YK _ _).ntt = _ ∧ _
  refine WN rfl ?_ rfl rfl rfl trivial
  rw [hfl]; rfl
 ·
  have h2 := ne_of_beq_false h4
  obtain ⟨i0, hi0, e0, hk0⟩ : ∃ k, k < l.length ∧ WD q l 0 = (k : Int) ∧ (l.take (k + 1)).filter (fun x => !q x) = l.take k := by
   rcases QfF q l 0 with ⟨h, -⟩ | ⟨k, h1, h3, h4⟩
   ·exact absurd h h2
   exact ⟨k, h1, by rw [h3, Nat.zero_add], h4⟩
  refine QA ?_
  refine zP (Qa4 rfl rfl rfl (by rw [e0]; omega)) ?_
  refine QC ?_
  refine Qi (fun x : {p : Nat × Nat × List Qn // DfI q l p.1 p.2.1 p.2.2} => ⟨[(0, .own Ju l.length), (1, .fn g [.el cs]), (5, i64 (x.1.1 : Nat)), (6, i64 (x.1.2.1 : Nat))], [(Ju, .arr 30 4 (x.1.2.2.map Xx))], 0⟩) (fun x => l.length - x.1.2.1) (⟨(i0, i0 + 1, l), Nat.lt_succ_self _, hi0, rfl, hk0.symm, rfl⟩) ?_ ?_
  ·
   exact Qa rfl (Jg ⟨(QE e0), rfl, (QE (by rw [e0]; rfl)), rfl, trivial⟩) ⟨rfl, rfl, (Qw _), trivial⟩
  ·rintro ⟨⟨i, j, g'⟩, dg⟩
   dsimp only at dg ⊢
   refine QA ?_; refine zP (Yn rfl rfl (by rfl) (by rw [List.length_map, dg.len])) ?_; refine QO ?_
   refine zq ?_ ?_ <;> intro h11
   rotate_left
   ·
    have gej : j = l.length := by have := of_decide_eq_false h11; have := dg.le; omega
    subst gej
    refine QA ?_
    refine Qsb hN rfl (k := 4) (zs := [.int .i64 0, .slice none 0 0, .slice none 0 0, .slice none 0 0]) rfl (Xm Qn.zero) rfl Qwp rfl rfl rfl rfl rfl (by rw [List.length_map, dg.len]) Qgw i rfl (by have := dg.lt; omega) rfl rfl rfl rfl rfl ?_
    
    refine QO ?_
    refine Qu (QB 0 Ju rfl (es := (g'.take i ++ List.replicate (l.length - i) Qn.zero).map Xx) (by exact Yl QwC) (by simp; have := dg.lt; have := dg.len; omega) (QS _) (Qp _) rfl) ?_
    refine QC ?_
    refine zP (Qws rfl rfl rfl i rfl (by simp; have := dg.lt; have := dg.len; omega) Qgw) ?_
    refine zT ?_; refine QG ?_
    change (YK _ _).ntt = _ ∧ _
    refine WN rfl ?_ rfl rfl rfl trivial
    show AV.sl _ none = AV.sl _ none
    rw [← List.map_take, List.take_append_of_le_length (by simp; have := dg.lt; have := dg.len; omega), List.take_take, Nat.min_self, dg.kept, List.take_of_length_le (Nat.le_refl _)]
   have ltj : j < l.length := by have := of_decide_eq_true h11; omega
   obtain ⟨x, hx⟩ := Qk ltj
   refine Xz ?_; refine zP (JL rfl rfl rfl rfl (by rw [List.length_map, dg.len]) j rfl ltj) ?_
   refine zP (JG rfl rfl rfl (by rw [List.length_map, dg.len]) Qgw j rfl (Xk (dg.get hx)) (r := .agg (Xm x)) (fun _ => by cases x; rfl) rfl) ?_
   refine Xz ?_; refine zP (YG (hc x (List.mem_of_getElem? hx)) rfl rfl rfl rfl) ?_; refine QO ?_
   refine zq ?_ ?_ <;> intro h17
   rotate_left
   ·
    have h8 : q x = true := by simpa using h17
    refine QC ?_
    refine zP (Qa4 rfl rfl rfl (by have := dg.le; omega)) ?_
    refine zS ?_; refine Qb ?_
    exact ⟨⟨(i, j + 1, g'), dg.drop hx h8⟩, Qa rfl (Jg ⟨(QE (by first | rfl | (dsimp only; omega))), rfl, (QE (by dsimp only; omega)), rfl, trivial⟩) ⟨(Yl (by first | rfl | exact QlH)), rfl, (Qw _), trivial⟩, by have := dg.lt; dsimp only; omega⟩
   have h8 : q x = false := by simpa using h17
   refine QA ?_
   refine zP (JL rfl rfl rfl rfl (by rw [List.length_map, dg.len]) i rfl (by have := dg.lt; omega)) ?_
   refine Qb4 hN rfl rfl rfl (by rw [List.length_map, dg.len]) i rfl (by rw [List.length_map, dg.len]; have := dg.lt; omega) rfl rfl rfl rfl Qgw rfl rfl rfl rfl ?_
   refine QC ?_
   refine zP (Qa4 rfl rfl rfl (by have := dg.lt; omega)) ?_
   refine QJ ?_
   refine zP (Qa4 rfl rfl rfl (by have := dg.le; omega)) ?_
   refine zS ?_; refine Qb ?_
   exact ⟨⟨(i + 1, j + 1, g'.set i x), dg.keep hx h8⟩, Qa rfl (Jg ⟨(QE (by first | rfl | (dsimp only; omega))), rfl, (QE (by dsimp only; omega)), rfl, trivial⟩) ⟨(Yl (by first | rfl | exact QlH)), rfl, (Qw _), trivial⟩, by have := dg.lt; dsimp only; omega⟩
end Go.Proofs.YtaecccdkjmipeaaGreat
