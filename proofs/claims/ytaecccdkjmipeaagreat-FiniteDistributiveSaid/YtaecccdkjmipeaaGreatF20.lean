/-
  Plain laws: how many elements a finite description has.
-/
import Derived.Test.YtaecccdkjmipeaaGreatF8
import Derived.Test.YtaecccdkjmipeaaGreatA10
import Derived.Test.YtaecccdkjmipeaaGreatF19
import Derived.Test.YtaecccdkjmipeaaGreatC4
namespace Go.Proofs.YtaecccdkjmipeaaGreat
set_option maxRecDepth 100000
set_option maxHeartbeats 1000000
open Go.RowKit
def Qj6 (T : List (List Int)) : Bool := !decide ((T.length : Int) > 12) && T.all fun r => !decide ((r.length : Int) > 20)
theorem Qkh (T : List (List Int)) : FC Tryz.prog 27 [Xr T] (bl (Qj6 T)) := by
 refine Qd [2] Tryz.func27 rfl rfl 19 Tryz.ntmps27 (Nat.le_of_ble_eq_true rfl) ?_
 intro E hN
 refine JK 0 rfl (fun hl0 => ?_)
 refine YJ ?_
 refine zq ?_ ?_ <;> intro h3
 ·
  have h2 := h3
  refine QC ?_; refine zQ ?_
  exact Qt (by rw [Qj6]; simp_all)
 have h2 := h3
 refine Xz ?_
 refine Qi (fun x : {k : Nat // k ≤ (T).length ∧ (T.drop k).all (fun r => !decide ((r.length : Int) > 20)) = T.all (fun r => !decide ((r.length : Int) > 20))} => ⟨[(0, Xr T), (3, i64 (x.1 : Nat))], [], 0⟩) (fun x => (T).length - x.1) (⟨0, Nat.zero_le _, by simp⟩) ?_ ?_
 ·
  exact Qa rfl (Jg trivial) trivial
 rintro ⟨k, hk, hg⟩
 dsimp only
 refine XJ ?_
 refine zq ?_ ?_ <;> intro h7
 rotate_left
 ·
  have hge : (T).length ≤ k := by simpa using h7
  refine QJ ?_; refine zQ ?_
  exact Qt (by rw [Qj6, X4 hg hge]; simp_all)
 have hlt : k < (T).length := by simpa using h7
 obtain ⟨x, hx⟩ := Qk hlt
 refine Xz ?_; refine zP (Qh rfl rfl rfl k rfl _ (Qq hx) rfl) ?_; refine QJ ?_
 refine zq ?_ ?_ <;> intro h11
 ·
  refine QC ?_; refine zQ ?_
  exact Qt (by rw [Qj6, Q6 hg hx (by simp_all), Bool.and_false])
 refine QA ?_; refine Qb ?_
 exact ⟨⟨k + 1, hlt, XF hg hx (by simp_all)⟩, Qa rfl (Xu ⟨(QE (by dsimp only; omega)), rfl, trivial⟩) trivial, by dsimp only; omega⟩
theorem Qjd (l : List Int) : FC Tryz.prog 33 [ivs l, ivs l] (bl true) := by
 refine Qd [4] Tryz.func33 rfl rfl 26 Tryz.ntmps33 (Nat.le_of_ble_eq_true rfl) ?_
 intro E hN
 refine JK 0 rfl (fun hl0 => ?_)
 refine YJ ?_; refine zP (Xc (b := false) rfl rfl rfl (by simp)) ?_; refine JU ?_
 refine Qi (fun x : {k : Nat // k ≤ (l).length ∧ True} => ⟨[(0, ivs l), (1, ivs l), (5, i64 (x.1 : Nat))], [], 0⟩) (fun x => (l).length - x.1) (⟨0, Nat.zero_le _, by simp⟩) ?_ ?_
 ·
  exact Qa rfl (Xl trivial) trivial
 rintro ⟨k, hk, hg⟩
 dsimp only
 refine XJ ?_
 refine zq ?_ ?_ <;> intro h9
 rotate_left
 ·
  have hge : (l).length ≤ k := by simpa using h9
  refine QJ ?_; refine zQ ?_
  rfl
 have hlt : k < (l).length := by simpa using h9
 obtain ⟨x, hx⟩ := Qk hlt
 refine QJ ?_; refine Qy 8 (by kernel_rfl) (by kernel_rfl) ?_; refine QO ?_; refine zp (Qh rfl rfl rfl k rfl _ (Qq hx) rfl) ?_
 refine QC ?_; refine zp (Qh rfl rfl rfl k rfl _ (Qq hx) rfl) ?_; refine zl ?_; change Qz _ _ _ _ _ _
 refine zP (Xc (b := false) rfl rfl rfl (by simp)) ?_; refine Xz ?_; refine Qb ?_
 exact ⟨⟨k + 1, hlt, trivial⟩, Qa rfl (Jg ⟨(QE (by dsimp only; omega)), rfl, trivial⟩) trivial, by dsimp only; omega⟩
theorem Qqn (l : List (List Int)) : FC Tryz.prog 26 [Xr l, Xr l] (bl true) := by
 refine Qd [4] Tryz.func26 rfl rfl 27 Tryz.ntmps26 (Nat.le_of_ble_eq_true rfl) ?_
 intro E hN
 refine JK 0 rfl (fun hl0 => ?_)
 refine YJ ?_; refine zP (Xc (b := false) rfl rfl rfl (by simp)) ?_; refine JU ?_
 refine Qi (fun x : {k : Nat // k ≤ (l).length ∧ True} => ⟨[(0, Xr l), (1, Xr l), (5, i64 (x.1 : Nat))], [], 0⟩) (fun x => (l).length - x.1) (⟨0, Nat.zero_le _, by simp⟩) ?_ ?_
 ·
  exact Qa rfl (Xl trivial) trivial
 rintro ⟨k, hk, hg⟩
 dsimp only
 refine XJ ?_
 refine zq ?_ ?_ <;> intro h9
 rotate_left
 ·
  have hge : (l).length ≤ k := by simpa using h9
  refine QJ ?_; refine zQ ?_
  rfl
 have hlt : k < (l).length := by simpa using h9
 obtain ⟨x, hx⟩ := Qk hlt
 refine QJ ?_; refine Qy 9 (by kernel_rfl) (by kernel_rfl) ?_; refine QO ?_; refine zp (Qh rfl rfl rfl k rfl _ (Qq hx) rfl) ?_
 refine QC ?_; refine zp (Qh rfl rfl rfl k rfl _ (Qq hx) rfl) ?_; refine zl ?_; refine zp (Qc (Qjd x) rfl rfl rfl) ?_
 change Qz _ _ _ _ _ _; refine XJ ?_; refine Qb ?_
 exact ⟨⟨k + 1, hlt, trivial⟩, Qa rfl (Jg ⟨(QE (by dsimp only; omega)), rfl, trivial⟩) trivial, by dsimp only; omega⟩
theorem Qrn (l : List (Nat × Nat)) : FC Tryz.prog 45 [prs l, prs l] (bl true) := by
 refine Qd [4] Tryz.func45 rfl rfl 26 Tryz.ntmps45 (Nat.le_of_ble_eq_true rfl) ?_
 intro E hN
 refine JK 0 rfl (fun hl0 => ?_)
 refine YJ ?_; refine zP (Xc (b := false) rfl rfl rfl (by simp)) ?_; refine JU ?_
 refine Qi (fun x : {k : Nat // k ≤ (l).length ∧ True} => ⟨[(0, prs l), (1, prs l), (5, i64 (x.1 : Nat))], [], 0⟩) (fun x => (l).length - x.1) (⟨0, Nat.zero_le _, by simp⟩) ?_ ?_
 ·
  exact Qa rfl (Xl trivial) trivial
 rintro ⟨k, hk, hg⟩
 dsimp only
 refine XJ ?_
 refine zq ?_ ?_ <;> intro h9
 rotate_left
 ·
  have hge : (l).length ≤ k := by simpa using h9
  refine QJ ?_; refine zQ ?_
  rfl
 have hlt : k < (l).length := by simpa using h9
 obtain ⟨x, hx⟩ := Qk hlt
 refine QJ ?_; refine Qy 8 (by kernel_rfl) (by kernel_rfl) ?_; refine QO ?_; refine zp (Qh rfl rfl rfl k rfl _ (QjP hx) rfl) ?_
 refine QC ?_; refine zp (Qh rfl rfl rfl k rfl _ (QjP hx) rfl) ?_; refine zl ?_; change Qz _ _ _ _ _ _
 refine zP (Qur rfl (.inr rfl) (by kernel_rfl) (by kernel_rfl) (by kernel_rfl) [(x.1 : Int), (x.2 : Int)] rfl rfl rfl rfl) ?_; refine Xz ?_
 refine Qb ?_
 exact ⟨⟨k + 1, hlt, trivial⟩, Qa rfl (Jg ⟨(QE (by dsimp only; omega)), rfl, trivial⟩) trivial, by dsimp only; omega⟩
theorem QaH : FC Tryz.prog 44 [] (Xr (XD 4 dia)) := by
 refine Qd [0] Tryz.func44 rfl rfl 6 Tryz.ntmps44 (Nat.le_of_ble_eq_true rfl) ?_
 intro E hN
 refine Je ?_; refine zP (Qj rfl rfl rfl rfl (by exact rfl) (by decide) (by decide)) ?_
 refine zP (Qj rfl rfl rfl rfl (by exact rfl) (by decide) (by decide)) ?_
 refine zP (Qj rfl rfl rfl rfl (by exact rfl) (by decide) (by decide)) ?_
 refine zP (Qj rfl rfl rfl rfl (by exact rfl) (by decide) (by decide)) ?_
 refine zP (Qj rfl rfl rfl rfl (by exact rfl) (by decide) (by decide)) ?_; refine zS ?_; refine zQ ?_
 rfl
def dlA : List AV := [i64 6, i64 0, i64 0, XU [[97], [98]], .sl [QF Qgk, QF QcB] none, rus []]
theorem Qmp : QF dl = dlA := by
 show [i64 6, i64 0, i64 0, XU [[97], [98]], AV.sl ([Qgk, QcB].map WB) none, rus []] = _
 simp only [List.map_cons, List.map_nil, Qgu]; rfl
def v10 : Qn := .mk 0 [] [.mk 1 [] [] [], .mk 0 [] [] []] []
def QwA : List AV := [i64 0, XU [], .sl [Xm (.mk 1 [] [] []), Xm (.mk 0 [] [] [])] none, ens []]
theorem Qtd : Xm v10 = QwA := by
 show [i64 0, XU [], AV.sl ([Qn.mk 1 [] [] [], .mk 0 [] [] []].map Xx) none, ens []] = _
 simp only [List.map_cons, List.map_nil, X3]; rfl
theorem Qto : ∃ z, KI 4 dia z := by
 obtain ⟨z, -, h⟩ := QbL Qcu.lt (by decide : (vio 4 dia).1 = 0)
 exact ⟨z, h⟩
theorem Qj2 : FC Tryz.prog 63 [Xr (XD 4 dia)] (i64 0) := by
 have h := Qhz 4 dia Qcu
 rw [if_pos (by decide)] at h; exact h
theorem cA : FC Tryz.prog 13 [.agg dlA] (.tup [i64 4, i64 0]) := by have h := QrG; rw [Qmp] at h; exact h
theorem tA : FC Tryz.prog 23 [.agg dlA] (.tup [Xr (XD 4 dia), i64 0]) := by have h := Qqo; rw [Qmp] at h; exact h
theorem iA : FC Tryz.prog 15 [.agg dlA, .agg QwA] (.tup [i64 2, i64 0]) := by have h := QpD 2 v10 rfl; rw [Qmp, Qtd] at h; exact h
theorem hA4 : FC Tryz.prog 36 [Xr (XD 4 dia)] (.tup [i64 2, i64 0]) := by
 obtain ⟨z, h⟩ := Qto
 exact W7 4 dia Qcu h Qj2
theorem covA : FC Tryz.prog 32 [Xr (XD 4 dia)] (.tup [prs [(0, 1), (0, 2), (1, 3), (2, 3)], i64 0]) := QnC 4 dia Qcu Qj2
theorem irrA : FC Tryz.prog 31 [Xr (XD 4 dia)] (.tup [ivs [1, 2], i64 0]) := QdL 4 dia Qcu Qj2
theorem disA : FC Tryz.prog 35 [Xr (XD 4 dia)] (.tup [bl true, i64 0]) := by
 have h := QbG 4 dia Qcu Qj2
 rw [show QaM 4 dia = true from by decide] at h; exact h
def two (i j : Nat) : Nat := j
theorem Qs8 : KP (XD 2 two) 2 two := ⟨rfl, by decide, by decide, fun i j hi hj => hj⟩
theorem chkA : FC Tryz.prog 25 [Xr (XD 2 two)] (.tup [.agg [i64 2, i64 0, i64 1, i64 0], i64 0]) := QmA 2 two Qs8
theorem Jt : FC Tryz.prog 12 [] (bl true) := by
 refine Qd [0] Tryz.func12 rfl rfl 138 Tryz.ntmps12 (Nat.le_of_ble_eq_true rfl) ?_
 intro E hN
 refine Je ?_; refine zP (Qj rfl rfl rfl rfl (by exact rfl) (by decide) (by decide)) ?_; refine QO ?_
 refine zP (Qj rfl rfl rfl rfl (by exact rfl) (by decide) (by decide)) ?_; refine Xz ?_; refine zP (Qc cA rfl rfl rfl) ?_; refine JU ?_
 refine zP (Qc tA rfl rfl rfl) ?_; refine XJ ?_; refine zP (Qc QaH rfl rfl rfl) ?_; refine zP (Qc covA rfl rfl rfl) ?_
 refine XJ ?_; refine zP (Qc QaH rfl rfl rfl) ?_; refine zP (Qc hA4 rfl rfl rfl) ?_; refine XJ ?_
 refine zP (Qc QaH rfl rfl rfl) ?_; refine zP (Qc irrA rfl rfl rfl) ?_; refine XJ ?_; refine zP (Qc QaH rfl rfl rfl) ?_
 refine zP (Qc disA rfl rfl rfl) ?_; refine XJ ?_; refine zP (Qj rfl rfl rfl rfl (by exact rfl) (by decide) (by decide)) ?_
 refine zP (Qj rfl rfl rfl rfl (by exact rfl) (by decide) (by decide)) ?_
 refine zP (Qj rfl rfl rfl rfl (by exact rfl) (by decide) (by decide)) ?_; refine zP (Qc chkA rfl rfl rfl) ?_; refine JA ?_
 refine zP (Qj rfl rfl rfl rfl (by exact rfl) (by decide) (by decide)) ?_; refine KO ?_; refine zP (Qc iA rfl rfl rfl) ?_; refine Qis ?_
 refine zP (Qc QaH rfl rfl rfl) ?_; refine zP (Qc (Qqn (XD 4 dia)) rfl rfl rfl) ?_; refine Xz ?_
 refine zP (WO rfl rfl rfl) ?_; refine zP (WO rfl rfl rfl) ?_; refine zP (WO rfl rfl rfl) ?_; refine zP (WO rfl rfl rfl) ?_
 refine zP (Qj rfl rfl rfl rfl (by exact rfl) (by decide) (by decide)) ?_
 refine zP (Qc (Qrn [(0, 1), (0, 2), (1, 3), (2, 3)]) rfl rfl rfl) ?_; refine Qeo ?_
 refine zP (Qj rfl rfl rfl rfl (by exact rfl) (by decide) (by decide)) ?_; refine zP (Qc (Qjd [1, 2]) rfl rfl rfl) ?_; refine Qeo ?_
 refine zP (Qs0 rfl (by kernel_rfl) (by kernel_rfl) (by kernel_rfl) [2, 0, 1, 0] (by kernel_rfl) rfl rfl) ?_; refine XN ?_; refine zQ ?_
 rfl
theorem us0 {n : Nat} {f : Nat → Nat → Nat} (ht : KP (XD n f) n f) (h : (vio n f).1 = 0) : FC Tryz.prog 63 [Xr (XD n f)] (i64 0) := by
 have hu := Qhz n f ht
 rw [if_pos h] at hu; exact hu
end Go.Proofs.YtaecccdkjmipeaaGreat
namespace Go.Proofs.YtaecccdkjmipeaaGreat
set_option maxRecDepth 100000
set_option maxHeartbeats 1000000
open Go.RowKit
theorem Qja {l : Qs} (hc : Q0 l = 0) : l.nm.length ≤ 32 := by
 have h1 := Qds (QP hc).four.1 (by decide)
 simp only [Bool.or_eq_false_iff, decide_eq_false_iff_not] at h1
 have : Kb l.k ≤ 32 := by unfold Kb; split <;> (try split) <;> omega
 omega
def cnt (l : Qs) : Nat := (K9 l).1.length
def Qai (l : Qs) : Int := (K9 l).2
theorem Qlo {l : Qs} (h : ¬ Q0 l = 0) : cnt l = 0 ∧ Qai l = 1 := by unfold cnt Qai K9; rw [if_neg h]; exact ⟨rfl, rfl⟩
theorem Qld {l : Qs} (h : Q0 l = 0) (hF : J3 l = false) : cnt l = 0 ∧ Qai l = 4 := by unfold cnt Qai K9; rw [if_pos h, hF]; exact ⟨rfl, rfl⟩
theorem Qae {l : Qs} (h : Q0 l = 0) (hF : J3 l = true) : (∃ L, Yz l = some L ∧ cnt l = L.length ∧ Qai l = 0) ∨ (Yz l = none ∧ cnt l = 0 ∧ Qai l = 6) := by
 unfold cnt Qai K9
 rw [if_pos h, if_pos hF]
 cases ha : Yz l with
 | none => exact .inr ⟨rfl, rfl, rfl⟩
 | some L => exact .inl ⟨L, rfl, (QbT L).length_eq, rfl⟩
def Qjq (k : Nat) : Nat → Nat
 | 0 => 1
 | n + 1 => min (Qjq k n * k) 1000
theorem Quv {a k : Nat} (h : 1 ≤ k) : min (min a 1000 * k) 1000 = min (a * k) 1000 := by
 by_cases ha : a ≤ 1000
 ·rw [show min a 1000 = a by omega]
 rw [show min a 1000 = 1000 by omega]
 have h1 : 1000 * 1 ≤ 1000 * k := Nat.mul_le_mul_left _ h
 have h2 : a * 1 ≤ a * k := Nat.mul_le_mul_left _ h
 omega
theorem QbJ {k : Nat} (h : 1 ≤ k) : ∀ n, Qjq k n = min (k ^ n) 1000
 | 0 => by simp [Qjq]
 | n + 1 => by rw [Qjq, QbJ h n, Quv h, Nat.pow_succ]
theorem QrC (L : List Qn) : ∀ nm : List Nm, (Q8 nm L).length = (L.length + 1) ^ nm.length := by
 have key : ∀ (nm : List Nm) (out : List Qn), (nm.foldl (fun out key => Qey key out L) out).length = out.length * (L.length + 1) ^ nm.length := by
  intro nm
  induction nm with
  | nil => intro out; simp
  | cons s nm ih =>
   intro out
   rw [List.foldl_cons, ih, Qfd, List.length_cons, Nat.pow_succ, Nat.mul_assoc, Nat.mul_comm (L.length + 1)]
 intro nm
 have := key nm [Qn.zero]
 simpa [Q8] using this
def QqF (l : Qs) (w : Nat) : Prop := (256 < w → Qai l = 6 ∧ cnt l = 0) ∧ (¬ 256 < w → Qai l = 0 ∧ cnt l = w)
theorem Qn2 {l : Qs} (h : Q0 l = 0) (hF : J3 l = true) {L : List Qn} (ha : Yz l = Qcc L) {w : Nat} (hw : w = min L.length 1000) : QqF l w := by
 unfold Qcc at ha
 constructor
 ·intro h1
  rw [if_neg (by omega)] at ha
  rcases Qae h hF with ⟨M, h1, h2, h3⟩ | ⟨h1, h2, h3⟩
  ·rw [ha] at h1; cases h1
  exact ⟨h3, h2⟩
 intro h1
 rw [if_pos (by omega)] at ha
 rcases Qae h hF with ⟨M, h1, h2, h3⟩ | ⟨h1, h2, h3⟩
 ·rw [ha] at h1; cases h1; exact ⟨h3, by omega⟩
 rw [ha] at h1; cases h1
theorem Qlv {l : Qs} (h : Q0 l = 0) (hF : J3 l = true) (ha : Yz l = none) : Qai l = 6 := by
 rcases Qae h hF with ⟨M, h1, h2, h3⟩ | ⟨h1, h2, h3⟩
 ·rw [ha] at h1; cases h1
 exact h3
theorem QtF {l q : Qs} (h : Q0 l = 0) (hF : J3 l = true) (hk : l.k = 5) (hq : l.ps = [q]) : (Qai q ≠ 0 → Qai q = 6 ∧ Qai l = 6) ∧ (Qai q = 0 → QqF l (Qjq (cnt q) l.nm.length)) := by
 have he := Qac l
 unfold Qgn at he
 rw [if_neg (by omega), if_neg (by omega), if_neg (by omega), if_neg (by omega), if_neg (by omega), if_pos hk, hq] at he
 simp only [List.map_cons] at he
 have hqm : q ∈ l.ps := by rw [hq]; simp
 rcases Qae (XR h hqm) (Jy hF q hqm) with ⟨L, h1, h2, h3⟩ | ⟨h1, h2, h3⟩
 ·refine ⟨fun hne => absurd h3 hne, fun _ => ?_⟩
  rw [h1] at he
  have he : Yz l = Qcc (Q8 l.nm (fmV q L)) := he
  refine Qn2 h hF he ?_
  obtain ⟨hn, hm⟩ := QbM q (QP (XR h hqm)) (Jy hF q hqm) L h1
  have hb := Qj1 (QP (XR h hqm)) (Jy hF q hqm) h1
  have hlen : (fmV q L).length + 1 = L.length := by
   obtain ⟨l1, l2, rfl⟩ := List.append_of_mem hb
   obtain ⟨g1, g2, g3⟩ := List.nodup_append.1 hn
   rw [List.nodup_cons] at g2
   have keep : ∀ l : List Qn, QL q ∉ l → l.filter (fun x => !eqV x (QL q)) = l := fun l hl => List.filter_eq_self.2 fun x hx => by
    rw [Bool.not_eq_true', Bool.eq_false_iff]
    intro e
    rw [(J8 _ _).1 e] at hx
    exact hl hx
   unfold fmV
   rw [List.filter_append, List.filter_cons, (J8 _ _).2 rfl, keep l1 (fun hx => g3 _ hx _ List.mem_cons_self rfl), keep l2 g2.1]
   simp
   omega
  rw [QrC, hlen, QbJ (by rw [h2]; exact List.length_pos_of_mem hb), h2]
 exact ⟨fun _ => ⟨h3, Qlv h hF (by rw [he, h1])⟩, fun h0 => by rw [h0] at h3; cases h3⟩
theorem QtJ {l : Qs} (h : Q0 l = 0) (hF : J3 l = true) (hk : l.k = 4) : QqF l (Qjq 2 l.nm.length) := by
 have he := Qac l
 unfold Qgn at he
 rw [if_neg (by omega), if_neg (by omega), if_pos hk] at he
 have hl : (X6 (fun _ => true) l.nm (2 ^ l.nm.length)).length = 2 ^ l.nm.length := by
  unfold X6
  rw [List.length_map, List.filter_eq_self.2 (by intro a _; rfl), List.length_map, List.length_range]
 refine Qn2 (L := X6 (fun _ => true) l.nm (2 ^ l.nm.length)) h hF ?_ (by rw [hl, QbJ (by decide)])
 rw [he]
 unfold Qcc
 by_cases h8 : l.nm.length ≤ 8
 ·rw [if_pos h8, if_pos (QfG h8)]
 rw [if_neg h8, if_neg]
 rw [hl]
 have : 2 ^ 9 ≤ 2 ^ l.nm.length := Nat.pow_le_pow_right (by decide) (by omega)
 omega
theorem Qv6 (l : Qs) (ih : ∀ q ∈ l.ps, FC Tryz.prog 21 [.agg (QF q)] (bl (J3 q))) (h6 : l.ps.length ≤ 1000000) : FC Tryz.prog 21 [.agg (QF l)] (bl (J3 l)) := by
 refine Qd [2] Tryz.func21 rfl rfl 42 Tryz.ntmps21 (Nat.le_of_ble_eq_true rfl) ?_
 intro E hN
 refine JA ?_
 refine zc 7 ?_ ?_ <;> intro h5
 ·
  refine Yd ?_; refine KO ?_; refine zQ ?_
  exact Qt (by rw [Jv]; simp_all)
 refine QA ?_
 refine zc 12 ?_ ?_ <;> intro h9
 rotate_left
 ·
  refine Wi ?_; refine uP (JI h5) (Ji rfl rfl h9 rfl) ?_; refine XN ?_
  refine Qi (fun x : {k : Nat // k ≤ (l.ps).length ∧ (l.ps.drop k).all J3 = l.ps.all J3} => ⟨[(1, .ptr 0 0), (3, i64 (x.1 : Nat))], [(0, .var 26 (QF l))], 1⟩) (fun x => (l.ps).length - x.1) (⟨0, Nat.zero_le _, by simp⟩) ?_ ?_
  ·
   exact Qa rfl (Jg trivial) ⟨rfl, rfl, rfl, trivial⟩
  rintro ⟨k, hk, hg⟩
  dsimp only
  refine JU ?_
  refine zq ?_ ?_ <;> intro h36
  rotate_left
  ·
   have hge : (l.ps).length ≤ k := by simpa using h36
   refine QJ ?_; refine zQ ?_
   exact Qt (by rw [Jv, X4 hg hge]; simp_all)
  have hlt : k < (l.ps).length := by simpa using h36
  obtain ⟨x, hx⟩ := Qk hlt
  refine XJ ?_; refine zP (Qh rfl rfl rfl k rfl _ (Xt hx) rfl) ?_; refine zL ?_
  refine zP (Qc (ih x (List.mem_of_getElem? hx)) rfl rfl rfl) ?_; refine QO ?_
  refine zq ?_ ?_ <;> intro h41
  ·
   refine QC ?_; refine zQ ?_
   exact Qt (by rw [Jv, Q6 hg hx (by simp_all), Bool.and_false])
  refine QA ?_; refine Qb ?_
  exact ⟨⟨k + 1, hlt, XF hg hx (by simp_all)⟩, Qa rfl (Xu ⟨(QE (by dsimp only; omega)), rfl, trivial⟩) ⟨rfl, rfl, rfl, trivial⟩, by dsimp only; omega⟩
 refine QJ ?_
 refine zc 16 ?_ ?_ <;> intro h12
 ·
  refine QC ?_; refine uP (X7 h9) (XI rfl rfl h12 rfl) ?_; refine QJ ?_; refine uP (X7 h9) (XI rfl rfl rfl rfl) ?_
  refine uP (JI h5) (XI rfl rfl h9 rfl) ?_; refine Je ?_; refine zQ ?_
  exact Qt (by rw [Jv]; simp_all)
 refine QC ?_; refine uP (X7 h9) (Ji rfl rfl h12 rfl) ?_; refine KO ?_
 refine zc 21 ?_ ?_ <;> intro h15
 ·
  refine QC ?_; refine uP (X7 h9) (XI rfl rfl h15 rfl) ?_; refine uP (JI h5) (XI rfl rfl h9 rfl) ?_; refine Je ?_; refine zQ ?_
  exact Qt (by rw [Jv]; simp_all)
 refine QC ?_; refine uP (X7 h9) (Ji rfl rfl h15 rfl) ?_; refine uP (JI h5) (XI rfl rfl h9 rfl) ?_; refine QO ?_
 refine zq ?_ ?_ <;> intro h18
 ·
  have h1 := h18
  refine QC ?_; refine zQ ?_
  exact Qt (by rw [Jv]; simp_all)
 have h1 := h18
 refine Xz ?_
 refine Qi (fun x : {k : Nat // k ≤ (l.ps).length ∧ (l.ps.drop k).all J3 = l.ps.all J3} => ⟨[(1, .ptr 0 0), (3, i64 (x.1 : Nat))], [(0, .var 26 (QF l))], 1⟩) (fun x => (l.ps).length - x.1) (⟨0, Nat.zero_le _, by simp⟩) ?_ ?_
 ·
  exact Qa rfl (Jg trivial) ⟨rfl, rfl, rfl, trivial⟩
 rintro ⟨k, hk, hg⟩
 dsimp only
 refine JU ?_
 refine zq ?_ ?_ <;> intro h24
 rotate_left
 ·
  have hge : (l.ps).length ≤ k := by simpa using h24
  refine QJ ?_; refine zQ ?_
  exact Qt (by rw [Jv, X4 hg hge]; simp_all)
 have hlt : k < (l.ps).length := by simpa using h24
 obtain ⟨x, hx⟩ := Qk hlt
 refine XJ ?_; refine zP (Qh rfl rfl rfl k rfl _ (Xt hx) rfl) ?_; refine zL ?_
 refine zP (Qc (ih x (List.mem_of_getElem? hx)) rfl rfl rfl) ?_; refine QO ?_
 refine zq ?_ ?_ <;> intro h29
 ·
  refine QC ?_; refine zQ ?_
  exact Qt (by rw [Jv, Q6 hg hx (by simp_all), Bool.and_false])
 refine QA ?_; refine Qb ?_
 exact ⟨⟨k + 1, hlt, XF hg hx (by simp_all)⟩, Qa rfl (Xu ⟨(QE (by dsimp only; omega)), rfl, trivial⟩) ⟨rfl, rfl, rfl, trivial⟩, by dsimp only; omega⟩
theorem QgG (l : Qs) (hO : Kv l) : FC Tryz.prog 21 [.agg (QF l)] (bl (J3 l)) := Qv6 l (fun q hq => QgG q (hO.part q hq)) (by have := hO.small; omega)
termination_by l
decreasing_by exact Qs.sizeOf_ps hq
end Go.Proofs.YtaecccdkjmipeaaGreat
