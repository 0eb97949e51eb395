/-
  Contracts: ref14.Is, Bottom, Check, Lattice (seat r5).
-/
import Derived.Test.YtaecccdkjmipeaaGreatF5
import Derived.Test.YtaecccdkjmipeaaGreatA10
import Derived.Test.YtaecccdkjmipeaaGreatA6
import Derived.Test.YtaecccdkjmipeaaGreatB18
namespace Go.Proofs.YtaecccdkjmipeaaGreat
set_option maxRecDepth 100000
set_option maxHeartbeats 1000000
open Go.RowKit
def okc (n : Int) (x : Int) : Bool := !(decide (x < 0) || decide (x ≥ n))
theorem QeB (n : Int) (r : List Int) : QdV n r = (decide ((r.length : Int) = n) && r.all (okc n)) := rfl
theorem Qkt (T : List (List Int)) : FC Tryz.prog 29 [Xr T] (bl (isT T)) := by
 refine Qd [2] Tryz.func29 rfl rfl 53 Tryz.ntmps29 (Nat.le_of_ble_eq_true rfl) ?_
 intro E hN
 refine JK 0 rfl (fun hl0 => ?_)
 refine YJ ?_
 refine zc 8 ?_ ?_ <;> intro h3
 ·
  refine JU ?_; refine zQ ?_
  all_goals exact Qt (by rw [QaK]; simp_all)
 refine QA ?_
 refine zq ?_ ?_ <;> intro h5
 ·
  have h2 := h5
  refine QC ?_; refine zQ ?_
  all_goals exact Qt (by rw [QaK]; simp_all)
 have h2 := h5
 refine Xz ?_
 refine Qi (fun x : {k : Nat // k ≤ (T).length ∧ (T.drop k).all (QdV T.length) = T.all (QdV T.length)} => ⟨[(0, Xr T), (3, i64 (x.1 : Nat))], [], 0⟩) (fun x => (T).length - x.1) (⟨0, Nat.zero_le _, by simp⟩) ?_ ?_
 ·
  exact Qa rfl (Jg trivial) trivial
 rintro ⟨k, hk, hg⟩
 dsimp only
 refine XJ ?_
 refine zq ?_ ?_ <;> intro h9
 rotate_left
 ·
  have hge : (T).length ≤ k := by simpa using h9
  refine QJ ?_; refine zQ ?_
  all_goals exact Qt (by rw [QaK, X4 hg hge]; simp_all)
 have hlt : k < (T).length := by simpa using h9
 obtain ⟨x, hx⟩ := Qk hlt
 refine XJ ?_; refine zP (Qh rfl rfl rfl k rfl _ (Qq hx) rfl) ?_; refine Je ?_
 refine zq ?_ ?_ <;> intro h14
 ·
  have h6 : ¬ x.length = T.length := by have := h14; simp at this; omega
  refine QC ?_; refine zQ ?_
  all_goals exact Qt (by rw [QaK, Q6 hg hx (by rw [QeB]; simp; omega), Bool.and_false])
 have h6 : x.length = T.length := by have := h14; simp at this; omega
 refine Je ?_
 refine Qi (fun x : {j : Nat // j ≤ T.length ∧ (x.drop j).all (okc T.length) = x.all (okc T.length)} => ⟨[(0, Xr T), (3, i64 (k : Nat)), (4, i64 (x.1 : Nat))], [], 0⟩) (fun x => T.length - x.1) (⟨0, Nat.zero_le _, by rfl⟩) ?_ ?_
 ·
  exact Qa rfl (Xl trivial) trivial
 rintro ⟨j, hj, gj⟩
 dsimp only
 refine XJ ?_
 refine zq ?_ ?_ <;> intro h19
 rotate_left
 ·
  have gej : T.length ≤ j := by simpa using h19
  refine QA ?_; refine Qb ?_
  exact ⟨⟨k + 1, hlt, XF hg hx (by rw [QeB, Bool.and_eq_true]; exact ⟨decide_eq_true (by omega), X4 gj (by omega)⟩)⟩, Qa rfl (Xu ⟨(QE (by dsimp only; omega)), rfl, trivial⟩) trivial, by dsimp only; omega⟩
 have ltj : j < T.length := by simpa using h19
 obtain ⟨y, hy⟩ := Qk (show j < x.length by omega)
 refine Xz ?_; refine zP (Qh rfl rfl rfl k rfl _ (Qq hx) rfl) ?_; refine QO ?_; refine zP (Qh rfl rfl rfl j rfl _ (Qq hy) rfl) ?_
 refine QC ?_
 refine zc 41 ?_ ?_ <;> intro h24
 ·
  refine QeT ?_; refine zQ ?_
  all_goals exact Qt (by rw [QaK, Q6 hg hx (by rw [QeB, Q6 gj hy (by unfold okc; simp_all), Bool.and_false]), Bool.and_false])
 refine QO ?_; refine uP (JI h24) (Qh rfl rfl rfl k rfl _ (Qq hx) rfl) ?_; refine QO ?_
 refine uP (JI h24) (Qh rfl rfl rfl j rfl _ (Qq hy) rfl) ?_; refine Je ?_
 refine zq ?_ ?_ <;> intro h30
 ·
  refine QC ?_; refine zQ ?_
  all_goals exact Qt (by rw [QaK, Q6 hg hx (by rw [QeB, Q6 gj hy (by unfold okc; simp_all), Bool.and_false]), Bool.and_false])
 refine QA ?_; refine Qb ?_
 exact ⟨⟨j + 1, ltj, XF gj hy (by unfold okc; simp_all)⟩, Qa rfl (Jg ⟨(QE (by dsimp only; omega)), rfl, trivial⟩) trivial, by dsimp only; omega⟩
def Qm8 (n : Nat) (f : Nat → Nat → Nat) : Int := match bot n f with | some b => b | none => -1
theorem Qlt (n : Nat) (f : Nat → Nat → Nat) : decide (Qm8 n f < 0) = (bot n f).isNone := by
 unfold Qm8
 cases bot n f with
 | none => rfl
 | some b => simp
theorem QoF (n : Nat) (f : Nat → Nat → Nat) (ht : KP (XD n f) n f) : FC Tryz.prog 34 [Xr (XD n f)] (i64 (Qm8 n f)) := by
 refine Qd [2] Tryz.func34 rfl rfl 43 Tryz.ntmps34 (Nat.le_of_ble_eq_true rfl) ?_
 intro E hN
 have h256 := ht.le
 have hlt := ht.lt
 have h1n := ht.pos
 refine XN ?_
 refine Qi (fun x : {b : Nat // b ≤ n ∧ ff (fun b => if neu f b n then some b else none) n b = bot n f} => ⟨[(0, Xr (XD n f)), (3, i64 (x.1 : Nat))], [], 0⟩) (fun x => n - x.1) (⟨0, Nat.zero_le _, by rfl⟩) ?_ ?_
 ·
  exact Qa rfl (Jg trivial) trivial
 rintro ⟨b, hb, gb⟩
 dsimp only
 refine XJ ?_
 refine zq ?_ ?_ <;> intro h5
 rotate_left
 ·
  have geb : n ≤ b := by simpa [XD] using h5
  refine QJ ?_; refine zQ ?_
  have e : bot n f = none := by rw [← gb, Qjs geb]
  rw [Qm8, e]
 have ltb : b < n := by simpa [XD] using h5
 refine Wi ?_
 refine Qi (fun x : {i : Nat // i ≤ n ∧ True} => ⟨[(0, Xr (XD n f)), (3, i64 (b : Nat)), (4, bl (neu f b x.1)), (5, i64 (x.1 : Nat))], [], 0⟩) (fun x => n - x.1) (⟨0, Nat.zero_le _, by trivial⟩) ?_ ?_
 ·
  exact Qa rfl (QR trivial) trivial
 rintro ⟨i, hi, gi⟩
 dsimp only
 refine XJ ?_
 refine zq ?_ ?_ <;> intro h11
 rotate_left
 ·
  have gei : n ≤ i := by simpa [XD] using h11
  obtain rfl : n = i := by omega
  refine QA ?_
  refine zq ?_ ?_ <;> intro h8
  ·
   have h10 := h8
   refine QJ ?_; refine zQ ?_
   have e : bot n f = some b := by rw [← gb, Qa6 ltb, if_pos h10]; rfl
   rw [Qm8, e]
  have h10 := h8
  refine QA ?_; refine Qb ?_
  exact ⟨⟨b + 1, ltb, by rw [← gb, Qa6 ltb, if_neg (by simp_all)]; rfl⟩, Qa rfl (Xu ⟨(QE (by dsimp only; omega)), rfl, trivial⟩) trivial, by dsimp only; omega⟩
 have lti : i < n := by simpa [XD] using h11
 refine Je ?_
 refine zc 19 ?_ ?_ <;> intro h8
 rotate_left
 ·
  refine Yd ?_; refine QC ?_; refine Qb ?_
  exact ⟨⟨i + 1, lti, trivial⟩, Qa rfl (Jg ⟨(KG (by rw [QbS]; simp_all [Ql3])), rfl, (QE (by dsimp only; omega)), rfl, trivial⟩) trivial, by dsimp only; omega⟩
 refine QO ?_; refine uP (X7 h8) (Qh rfl rfl rfl b rfl _ (XH ltb) rfl) ?_; refine QO ?_
 refine uP (X7 h8) (Qh rfl rfl rfl i rfl _ (Xj lti) rfl) ?_; refine QA ?_
 refine zc 30 ?_ ?_ <;> intro h16
 ·
  refine QO ?_; refine uP (X7 h16) (Qh rfl rfl rfl i rfl _ (XH lti) rfl) ?_; refine QO ?_
  refine uP (X7 h16) (Qh rfl rfl rfl b rfl _ (Xj ltb) rfl) ?_; refine XN ?_; refine Qb ?_
  exact ⟨⟨i + 1, lti, trivial⟩, Qa rfl (Jg ⟨(KG (by rw [QbS]; simp_all [Ql3])), rfl, (QE (by dsimp only; omega)), rfl, trivial⟩) trivial, by dsimp only; omega⟩
 refine QeT ?_; refine Qb ?_
 exact ⟨⟨i + 1, lti, trivial⟩, Qa rfl (Jg ⟨(KG (by rw [QbS]; simp_all [Ql3])), rfl, (QE (by dsimp only; omega)), rfl, trivial⟩) trivial, by dsimp only; omega⟩
theorem Qnm (n : Nat) (f : Nat → Nat → Nat) (ht : KP (XD n f) n f) : FC Tryz.prog 28 [Xr (XD n f)] (.tup [.agg (QvU (vio n f)), i64 0]) := by
 refine YV [.c 2 53 4 true, .t 3] ⟨⟨inferInstance, rfl⟩, trivial⟩ Tryz.func28 rfl rfl 117 Tryz.ntmps28 (Nat.le_of_ble_eq_true rfl) ?_
 intro E hN
 have h256 := ht.le
 have hlt := ht.lt
 have h1n := ht.pos
 refine JU ?_; refine zP (Qc (fcb (c := true) (Qkt (XD n f)) ht.is) rfl rfl rfl) ?_; refine XN ?_
 refine Qi (fun x : {a : Nat // a ≤ n ∧ ff (fun a => if f a a = a then none else some (1, a, 0, 0)) n a = Qiq n f} => ⟨[(2, .ptr 0 0), (0, Xr (XD n f)), (4, i64 (x.1 : Nat))], [(0, .var 53 [i64 0, i64 0, i64 0, i64 0])], 1⟩) (fun x => n - x.1) (⟨0, Nat.zero_le _, by rfl⟩) ?_ ?_
 ·
  exact Qa rfl (Xl trivial) ⟨rfl, rfl, rfl, trivial⟩
 rintro ⟨a, ha, ga⟩
 dsimp only
 refine XJ ?_
 refine zq ?_ ?_ <;> intro h7
 ·
  have lta : a < n := by simpa [XD] using h7
  refine Xz ?_; refine zP (Qh rfl rfl rfl a rfl _ (XH lta) rfl) ?_; refine QO ?_
  refine zP (Qh rfl rfl rfl a rfl _ (Xj lta) rfl) ?_; refine QJ ?_
  refine zq ?_ ?_ <;> intro h12
  ·
   have h4 : f a a ≠ a := by simpa [Qfj] using h12
   refine QC ?_; refine zP (WO rfl rfl rfl) ?_; refine QC ?_; refine QG ?_
   change (resY _ _).bind AV.fzt = some _
   refine Yj rfl ?_
   rw [QuO (Qu1 lta ga (if_neg h4))]; rfl
  have h4 : f a a = a := by simpa [Qfj] using h12
  refine QA ?_; refine Qb ?_
  exact ⟨⟨a + 1, lta, QuZ lta ga (if_pos h4)⟩, Qa rfl (Jg ⟨(QE (by dsimp only; omega)), rfl, trivial⟩) ⟨rfl, rfl, rfl, trivial⟩, by dsimp only; omega⟩
 have gea : n ≤ a := by simpa [XD] using h7
 have e1 := Qgb gea ga
 refine Xz ?_
 refine Qi (fun x : {a : Nat // a ≤ n ∧ ff (fun a => ff (Qbo f a) n (a + 1)) n a = Qhk n f} => ⟨[(2, .ptr 0 0), (0, Xr (XD n f)), (5, i64 (x.1 : Nat))], [(0, .var 53 [i64 0, i64 0, i64 0, i64 0])], 1⟩) (fun x => n - x.1) (⟨0, Nat.zero_le _, by rfl⟩) ?_ ?_
 ·
  exact Qa rfl (Xl trivial) ⟨rfl, rfl, rfl, trivial⟩
 rintro ⟨a, ha, ga⟩
 dsimp only
 refine XJ ?_
 refine zq ?_ ?_ <;> intro h20
 ·
  have lta : a < n := by simpa [XD] using h20
  refine XN ?_
  refine Qi (fun x : {b : Nat // a + 1 ≤ b ∧ b ≤ n ∧ (ff (Qbo f a) n b).or (ff (fun a => ff (Qbo f a) n (a + 1)) n (a + 1)) = Qhk n f} => ⟨[(2, .ptr 0 0), (0, Xr (XD n f)), (5, i64 (a : Nat)), (6, i64 (x.1 : Nat))], [(0, .var 53 [i64 0, i64 0, i64 0, i64 0])], 1⟩) (fun x => n - x.1) (⟨a + 1, Nat.le_refl _, by omega, QiV lta ga rfl⟩) ?_ ?_
  ·
   exact Qa rfl (Xl ⟨(QE (by dsimp only; omega)), rfl, trivial⟩) ⟨rfl, rfl, rfl, trivial⟩
  rintro ⟨b, hab, hb, gb⟩
  dsimp only
  refine XJ ?_
  refine zq ?_ ?_ <;> intro h27
  rotate_left
  ·
   have geb : n ≤ b := by simpa [XD] using h27
   refine QA ?_; refine Qb ?_
   exact ⟨⟨a + 1, lta, (Qbs geb gb)⟩, Qa rfl (Jg ⟨(QE (by dsimp only; omega)), rfl, trivial⟩) ⟨rfl, rfl, rfl, trivial⟩, by dsimp only; omega⟩
  have ltb : b < n := by simpa [XD] using h27
  refine QJ ?_; refine Qy 14 (by kernel_rfl) (by kernel_rfl) ?_; refine QO ?_; refine zp (Qh rfl rfl rfl a rfl _ (XH lta) rfl) ?_
  refine QO ?_; refine zp (Qh rfl rfl rfl b rfl _ (Xj ltb) rfl) ?_; refine QC ?_
  refine zp (Qh rfl rfl rfl b rfl _ (XH ltb) rfl) ?_; refine QO ?_; refine zp (Qh rfl rfl rfl a rfl _ (Xj lta) rfl) ?_
  refine zl ?_; change Qz _ _ _ _ _ _; refine QO ?_
  refine zq ?_ ?_ <;> intro h36
  ·
   have h13 : ¬ f a b = f b a := by simpa [Qfj] using h36
   refine QJ ?_; refine zP (WO rfl rfl rfl) ?_; refine QC ?_; refine QG ?_
   change (resY _ _).bind AV.fzt = some _
   refine Yj rfl ?_
   rw [QuG e1 (QiD ltb gb (by rw [Qbo, if_neg h13]))]; rfl
  have h13 : f a b = f b a := by simpa [Qfj] using h36
  refine QA ?_; refine Qb ?_
  exact ⟨⟨b + 1, by omega, ltb, Qjr ltb gb (by rw [Qbo, if_pos h13])⟩, Qa rfl (Xl ⟨(QE (by dsimp only; omega)), rfl, trivial⟩) ⟨rfl, rfl, rfl, trivial⟩, by dsimp only; omega⟩
 have gea : n ≤ a := by simpa [XD] using h20
 have e2 := Qgb gea ga
 refine Xz ?_
 refine Qi (fun x : {a : Nat // a ≤ n ∧ ff (fun a => ff (fun b => ff (Wq f a b) n 0) n 0) n a = Qgf n f} => ⟨[(2, .ptr 0 0), (0, Xr (XD n f)), (7, i64 (x.1 : Nat))], [(0, .var 53 [i64 0, i64 0, i64 0, i64 0])], 1⟩) (fun x => n - x.1) (⟨0, Nat.zero_le _, by rfl⟩) ?_ ?_
 ·
  exact Qa rfl (Xl trivial) ⟨rfl, rfl, rfl, trivial⟩
 rintro ⟨a, ha, ga⟩
 dsimp only
 refine XJ ?_
 refine zq ?_ ?_ <;> intro h45
 rotate_left
 ·
  have gea : n ≤ a := by simpa [XD] using h45
  have e3 := Qgb gea ga
  refine QA ?_; refine zP (Qc (QoF n f ht) rfl rfl rfl) ?_; refine QO ?_
  refine zq ?_ ?_ <;> intro h82
  ·
   have h31 := h82
   rw [Qlt] at h31
   refine zG ?_; refine zP (WO rfl rfl rfl) ?_; refine QC ?_; refine QG ?_
   change (resY _ _).bind AV.fzt = some _
   refine Yj rfl ?_
   rw [Qk0 e1 e2 e3, if_pos (by simpa using h31)]; rfl
  have h31 := h82
  rw [Qlt] at h31
  refine QC ?_; refine zP (Qr1 rfl) ?_; refine QC ?_; refine QG ?_
  change (resY _ _).bind AV.fzt = some _
  refine Yj rfl ?_
  rw [Qk0 e1 e2 e3, if_neg (by intro e; simp [e] at h31)]; rfl
 have lta : a < n := by simpa [XD] using h45
 refine XJ ?_
 refine Qi (fun x : {b : Nat // b ≤ n ∧ (ff (fun b => ff (Wq f a b) n 0) n b).or (ff (fun a => ff (fun b => ff (Wq f a b) n 0) n 0) n (a + 1)) = Qgf n f} => ⟨[(2, .ptr 0 0), (0, Xr (XD n f)), (7, i64 (a : Nat)), (8, i64 (x.1 : Nat))], [(0, .var 53 [i64 0, i64 0, i64 0, i64 0])], 1⟩) (fun x => n - x.1) (⟨0, Nat.zero_le _, by exact QiV lta ga rfl⟩) ?_ ?_
 ·
  exact Qa rfl (QR trivial) ⟨rfl, rfl, rfl, trivial⟩
 rintro ⟨b, hb, gb⟩
 dsimp only
 refine XJ ?_
 refine zq ?_ ?_ <;> intro h51
 rotate_left
 ·
  have geb : n ≤ b := by simpa [XD] using h51
  refine QA ?_; refine Qb ?_
  exact ⟨⟨a + 1, lta, (Qbs geb gb)⟩, Qa rfl (Jg ⟨(QE (by dsimp only; omega)), rfl, trivial⟩) ⟨rfl, rfl, rfl, trivial⟩, by dsimp only; omega⟩
 have ltb : b < n := by simpa [XD] using h51
 refine XJ ?_
 refine Qi (fun x : {c : Nat // c ≤ n ∧ (ff (Wq f a b) n c).or ((ff (fun b => ff (Wq f a b) n 0) n (b + 1)).or (ff (fun a => ff (fun b => ff (Wq f a b) n 0) n 0) n (a + 1))) = Qgf n f} => ⟨[(2, .ptr 0 0), (0, Xr (XD n f)), (7, i64 (a : Nat)), (8, i64 (b : Nat)), (9, i64 (x.1 : Nat))], [(0, .var 53 [i64 0, i64 0, i64 0, i64 0])], 1⟩) (fun x => n - x.1) (⟨0, Nat.zero_le _, by rw [← Option.or_assoc]; rw [Qa6 ltb] at gb; exact gb⟩) ?_ ?_
 ·
  exact Qa rfl (QR (Xu trivial)) ⟨rfl, rfl, rfl, trivial⟩
 rintro ⟨c, hc, gc⟩
 dsimp only
 refine XJ ?_
 refine zq ?_ ?_ <;> intro h58
 rotate_left
 ·
  have gec : n ≤ c := by simpa [XD] using h58
  refine QA ?_; refine Qb ?_
  exact ⟨⟨b + 1, ltb, (Qbs gec gc)⟩, Qa rfl (Xl ⟨(QE (by dsimp only; omega)), rfl, trivial⟩) ⟨rfl, rfl, rfl, trivial⟩, by dsimp only; omega⟩
 have ltc : c < n := by simpa [XD] using h58
 refine QJ ?_; refine Qy 26 (by kernel_rfl) (by kernel_rfl) ?_; refine QC ?_; refine zp (Qh rfl rfl rfl a rfl _ (XH lta) rfl) ?_
 refine QO ?_; refine zp (Qh rfl rfl rfl b rfl _ (Xj ltb) rfl) ?_; refine zl ?_
 refine zp (Qh rfl rfl rfl (f a b) rfl _ (XH (hlt a b lta ltb)) rfl) ?_; refine QO ?_
 refine zp (Qh rfl rfl rfl c rfl _ (Xj ltc) rfl) ?_; refine QC ?_; refine zp (Qh rfl rfl rfl a rfl _ (XH lta) rfl) ?_
 refine QC ?_; refine zp (Qh rfl rfl rfl b rfl _ (XH ltb) rfl) ?_; refine QO ?_
 refine zp (Qh rfl rfl rfl c rfl _ (Xj ltc) rfl) ?_; refine zl ?_
 refine zp (Qh rfl rfl rfl (f b c) rfl _ (Xj (hlt b c ltb ltc)) rfl) ?_; refine zl ?_; change Qz _ _ _ _ _ _; refine QO ?_
 refine zq ?_ ?_ <;> intro h75
 ·
  have h25 : ¬ f (f a b) c = f a (f b c) := by simpa [Qfj] using h75
  refine QA ?_; refine zP (WO rfl rfl rfl) ?_; refine QC ?_; refine QG ?_
  change (resY _ _).bind AV.fzt = some _
  refine Yj rfl ?_
  rw [QuT e1 e2 (QiD ltc gc (by rw [Wq, if_neg h25]))]; rfl
 have h25 : f (f a b) c = f a (f b c) := by simpa [Qfj] using h75
 refine QA ?_; refine Qb ?_
 exact ⟨⟨c + 1, ltc, Qjr ltc gc (by rw [Wq, if_pos h25])⟩, Qa rfl (QR ⟨(QE (by dsimp only; omega)), rfl, trivial⟩) ⟨rfl, rfl, rfl, trivial⟩, by dsimp only; omega⟩
theorem Qlc (n : Nat) (f : Nat → Nat → Nat) (ht : KP (XD n f) n f) : FC Tryz.prog 30 [Xr (XD n f)] (bl (decide ((vio n f).1 = 0))) := by
 refine Qd [2] Tryz.func30 rfl rfl 17 Tryz.ntmps30 (Nat.le_of_ble_eq_true rfl) ?_
 intro E hN
 refine Xz ?_; refine zP (Qc (Qnm n f ht) rfl rfl rfl) ?_; refine JA ?_; refine zP (Qjp rfl rfl rfl 0 rfl (by decide) rfl rfl) ?_
 refine QJ ?_; refine zQ ?_
 exact Qt (by rw [Bool.eq_iff_iff]; simp)
theorem QS (l : List Qn) : (l.map Xx).all (okE 4) = true := XA (fun v => by rw [X3]; rfl) l
theorem Qp (l : List Qn) : ∀ e ∈ l.map Xx, fzs e = some e := JB (fun v => by rw [X3]; rfl) l
theorem Qli (l : List Qn) : (l.map Xx).flatten.all Qge = true := Qv2 (Qp l)
theorem WV {Ho : List (Nat × QH)} {es : List (List AV)} (h : ∀ e ∈ es, fzs e = some e) : es.flatten.all (Qh8 Ho) = true := by
 refine List.all_eq_true.2 fun x hx => ?_
 obtain ⟨e, he, hxe⟩ := List.mem_flatten.1 hx
 obtain ⟨i, hi⟩ := List.getElem?_of_mem hxe
 have := (Y1 (h e he)).2 i x x hi hi
 cases x with
 | sl es tk => cases tk with
  | none => rfl
  | some o => simp [AV.fz1] at this
 | ptr o off => simp [AV.fz1] at this
 | own o n => simp [AV.fz1] at this
 | eptr o n off => simp [AV.fz1] at this
 | agg => simp [AV.fz1] at this
 | tup => simp [AV.fz1] at this
 | fn => simp [AV.fz1] at this
 | _ => rfl
theorem Qw {L : Nat} {te : TypeId} (l : List Qn) : WH L (.arr te 4 (l.map Xx)) = true := QN (f := Xx) (fun v => by rw [X3]; rfl) l
abbrev GV (f : FuncId) (args : List AV) (l : List Qn) (q m : Nat) : Prop := GX Tryz.prog f args [] (.tup [.own q l.length, bl true]) [(q, .arr 30 4 (l.map Xx))] m
theorem KF {f : FuncId} {args : List AV} {l : List Qn} {q m : Nat} (h : GV f args l q m) : GV f args l 0 1 := fun c vs hg hvl hv => by
 refine (h c vs hg hvl hv).mono ?_
 rintro e w' ⟨v, c', rfl, rfl, go, hvr⟩
 have big : ∀ o, c.K o → o ≠ 0 := fun o hk e => by have := hg.big o hk; subst e; exact absurd this (by unfold Ju; decide)
 obtain ⟨hKq, u, hVq, hor, hbl⟩ := go.live q _ (Qdl _ _ _)
 obtain ⟨V', hV'⟩ : ∃ V' : Nat → Option Value, V' = fun o => if o = 0 then c'.V q else none := ⟨_, rfl⟩
 have hV0 : V' 0 = some u := by rw [hV']; simpa using hVq
 have hVn : ∀ o, o ≠ 0 → V' o = none := fun o ho => by rw [hV']; simp [ho]
 refine ⟨v, ⟨c'.w, c'.S, V', fun o => c.K o ∨ o < 1⟩, rfl, rfl, ?_, ?_⟩
 ·exact {
   os := go.os, tape := go.tape, output := go.output, drawn := go.drawn, size := go.size, frame := go.frame
   le := ⟨go.le.S, fun _ h => .inl h, fun o hk => .inr (.inl (hVn o (big o hk)))⟩
   K := fun _ => Iff.rfl, Snew := go.Snew, Ssz := go.Ssz
   live := fun o ob ho => by
    rw [QM] at ho
    split at ho
    ·rename_i e0
     cases ho; subst e0
     refine ⟨.inr (Nat.lt_succ_self 0), u, hV0, ?_, hbl⟩
     cases hor with
     | arr _ _ _ _ xs hown hk hx hS =>
      refine .arr u _ 4 _ xs hown hk (fun i y x hi hx' => .fr _ _ ?_) hS
      obtain ⟨e', he', hxe⟩ := List.mem_flatten.1 (List.mem_of_getElem? hx')
      obtain ⟨j, hj⟩ := List.getElem?_of_mem hxe
      exact (hx i y x hi hx').fz1 ((Y1 (Qp l e' he')).2 j x x hj hj)
    cases ho
   dead := fun o ho => by
    rw [QM] at ho
    split at ho
    ·cases ho
    rename_i e0; exact hVn o e0
   apart := fun o o' x y b h1 h2 h3 h4 => by
    by_cases e1 : o = 0
    ·by_cases e2 : o' = 0
     ·rw [e1, e2]
     have h2 : V' o' = some y := h2
     rw [hVn o' e2] at h2; cases h2
    have h1 : V' o = some x := h1
    rw [hVn o e1] at h1; cases h1 }
 cases hvr with
 | fr _ _ h => cases h with
  | tup vs _ hl h =>
   have h0 : ∃ z, vs[0]? = some z := ⟨_, List.getElem?_eq_getElem (by rw [hl]; simp)⟩
   obtain ⟨z, hz⟩ := h0
   have := h 0 z _ hz rfl
   cases this
 | tup vs _ hl h =>
  refine .tup vs _ hl fun i y x hi hj => ?_
  match i, hj with
  | 0, hj =>
   cases hj
   have h5 := h 0 y _ hi rfl
   cases h5 with
   | fr _ _ h => cases h
   | own _ _ _ hK hV =>
    refine .own _ _ _ (.inr (Nat.lt_succ_self 0)) fun A n' cap hh => hV A n' cap ?_
    have hh : V' 0 = _ := hh
    rw [hV0] at hh; rw [hVq]; exact hh
  | 1, hj =>
   cases hj
   have h5 := h 1 y _ hi rfl
   exact .fr _ _ (by rw [h5.p_inv]; exact .p _)
  | i + 2, hj => simp at hj
theorem YF {ρ : List (Nat × Nat)} {q : Nat} {te : TypeId} {k : Nat} {es : List (List AV)} (h : ∀ e ∈ es, fzs e = some e) : [(q, QH.arr te k es)].map (fun p => (rn ρ p.1, Qgi ρ p.2)) = [(rn ρ q, .arr te k es)] := by
 simp only [List.map_cons, List.map_nil, Qgi, Qmr h]
def Y2 (lo : Int) (n : Nat) : List Qn := (List.range n).map fun i : Nat => .mk (lo + (i : Int)) [] [] []
theorem QmB (lo : Int) (n : Nat) : Y2 lo (n + 1) = Y2 lo n ++ [.mk (lo + n) [] [] []] := by
 unfold Y2; rw [List.range_succ, List.map_append]; rfl
theorem QbZ (lo : Int) (n : Nat) : (Y2 lo n).length = n := by simp [Y2]
theorem QaP (lo hi : Int) (N : Nat) (h1 : hi - lo + 1 = (N : Int)) (h2 : N ≤ 256) (h3 : -1000000000 ≤ lo) (h4 : hi ≤ 1000000000) : GV 69 [i64 lo, i64 hi] (Y2 lo N) 0 1 := by
 refine JC [4, 5] Tryz.func69 rfl rfl 24 Tryz.ntmps69 (Nat.le_of_ble_eq_true rfl) ?_
 intro E hN
 refine XN ?_; refine zP (WJ rfl rfl rfl (by omega)) ?_
 refine zP (Xc (b := false) rfl rfl rfl (by simp; omega)) ?_
 refine WG ?_; refine Qu (Yu rfl 6 30 4 rfl) ?_
 refine Qi (fun x : {k : Nat // k ≤ N ∧ True} => ⟨[(0, i64 lo), (1, i64 hi), (6, .own 0 x.1), (7, i64 (lo + (x.1 : Nat)))], [(0, .arr 30 4 ((Y2 lo x.1).map Xx))], 1⟩) (fun x => N - x.1) (⟨0, Nat.zero_le _, by trivial⟩) ?_ ?_
 ·
  exact Qa rfl (Xl ⟨(QE (by dsimp only; omega)), rfl, trivial⟩) ⟨rfl, rfl, (Qw _), trivial⟩
 rintro ⟨k, hk, gk⟩
 dsimp only
 refine Xz ?_
 refine zq ?_ ?_ <;> intro h8
 ·
  have ltk : k < N := by have := of_decide_eq_true h8; omega
  refine Xz ?_; refine zP (Qj rfl rfl rfl rfl (by exact rfl) (by decide) (by decide)) ?_
  refine Xb hN rfl rfl rfl (by simp [QbZ]) rfl rfl (by rfl) (by simp [QbZ, Qg]; omega) rfl rfl rfl rfl ?_
  refine Je ?_; refine Qb ?_
  exact ⟨⟨k + 1, ltk, trivial⟩, Qa rfl (Xl ⟨(QE (by dsimp only; omega)), rfl, trivial⟩) ⟨(Yl (by rw [QmB, List.map_append, List.map_cons, X3]; rfl)), rfl, (Qw _), trivial⟩, by dsimp only; omega⟩
 have gek : N ≤ k := by have := of_decide_eq_false h8; omega
 obtain rfl : N = k := by omega
 refine Xz ?_; refine QG ?_
 change (YK _ _).ntt = _ ∧ _
 refine WN rfl ?_ rfl rfl rfl ⟨rfl, rfl, Qw _, trivial⟩
 show AV.tup [.own 0 N, bl true] = _
 rw [QbZ]
theorem Qnp : GV 48 [.agg (QF (.mk 1 0 0 [] [] []))] (Y2 0 2) 1 2 := by
 refine JC [2, 3] Tryz.func48 rfl rfl 91 Tryz.ntmps48 (Nat.le_of_ble_eq_true rfl) ?_
 intro E hN
 refine QjA ?_
 refine YH hN [] (QaP 0 1 2 rfl (by decide) (by decide) (by decide)) (.fn _ _ _ _ rfl rfl) rfl rfl rfl trivial rfl ⟨WV (Qp _), trivial⟩ rfl (Hn := [(1, .arr 30 4 ((Y2 0 2).map Xx))]) (YF (Qp _)) rfl rfl rfl rfl rfl rfl ?_
 refine QA ?_; refine QG ?_
 change (YK _ _).ntt = _ ∧ _
 refine WN rfl ?_ rfl rfl rfl ⟨rfl, rfl, Qw _, trivial⟩
 rfl
theorem QpZ (lo hi : Int) (N : Nat) (h1 : hi - lo + 1 = (N : Int)) (h2 : N ≤ 256) (h3 : -1000000000 ≤ lo) (h4 : hi ≤ 1000000000) : GV 48 [.agg (QF (.mk 2 lo hi [] [] []))] (Y2 lo N) 1 2 := by
 refine JC [2, 3] Tryz.func48 rfl rfl 91 Tryz.ntmps48 (Nat.le_of_ble_eq_true rfl) ?_
 intro E hN
 refine Yd ?_; refine XN ?_
 refine YH hN [] (QaP lo hi N h1 h2 h3 h4) (.fn _ _ _ _ rfl rfl) rfl rfl rfl trivial rfl ⟨WV (Qp _), trivial⟩ rfl (Hn := [(1, .arr 30 4 ((Y2 lo N).map Xx))]) (YF (Qp _)) rfl rfl rfl rfl rfl rfl ?_
 refine QA ?_; refine QG ?_
 change (YK _ _).ntt = _ ∧ _
 refine WN rfl ?_ rfl rfl rfl ⟨rfl, rfl, Qw _, trivial⟩
 rfl
end Go.Proofs.YtaecccdkjmipeaaGreat
