/-
  Contracts: finite.Irreducibles, Distributive, slices.Max (se
-/
import Derived.Test.YtaecccdkjmipeaaGreatF4
namespace Go.Proofs.YtaecccdkjmipeaaGreat
set_option maxRecDepth 100000
set_option maxHeartbeats 1000000
open Go.RowKit
def Qgo (n : Nat) (L : List (Nat × Nat)) : List (List AV) := (List.range n).map fun i => QeF (Qa2 L i)
theorem QbN {n : Nat} {L : List (Nat × Nat)} : (Qgo n L).length = n := by simp [Qgo]
theorem QoD {n : Nat} {L : List (Nat × Nat)} {i : Nat} (hi : i < n) : (Qgo n L)[i]? = some (QeF (Qa2 L i)) := by simp [Qgo, hi]
theorem QrE (L : List (Nat × Nat)) (e : Nat × Nat) (i : Nat) : Qa2 (L ++ [e]) i = Qa2 L i + if e.2 = i then 1 else 0 := by
 unfold Qa2
 rw [List.countP_append]
 by_cases h : e.2 = i <;> simp [h]
theorem QqU {n : Nat} {L : List (Nat × Nat)} {k : Nat} {e : Nat × Nat} (hk : L[k]? = some e) (he : e.2 < n) : (Qgo n (L.take k)).set e.2 [i64 ((Qa2 (L.take k) e.2 : Nat) + 1)] = Qgo n (L.take (k + 1)) := by
 have ht : L.take (k + 1) = L.take k ++ [e] := by rw [List.take_add_one, hk]; rfl
 rw [ht]
 refine List.ext_getElem (by simp [Qgo]) fun i h1 h2 => ?_
 rw [List.getElem_set]
 simp only [Qgo, List.getElem_map, List.getElem_range, QrE]
 split
 ·rename_i h; subst h; rfl
 rfl
theorem QoL {n : Nat} {f : Nat → Nat → Nat} {k : Nat} {e : Nat × Nat} (h : (Y0 n f)[k]? = some e) : e.1 < n ∧ e.2 < n ∧ cov n f e.1 e.2 = true := by
 have hm := List.mem_of_getElem? h
 unfold Y0 at hm
 obtain ⟨a, ha, hx⟩ := List.mem_flatMap.1 hm
 unfold Qiu at hx
 obtain ⟨b, hb, rfl⟩ := List.mem_map.1 hx
 obtain ⟨h1, h2⟩ := List.mem_filter.1 hb
 exact ⟨List.mem_range.1 ha, List.mem_range.1 h1, h2⟩
theorem Qwa (L : List (Nat × Nat)) (i k : Nat) : Qa2 (L.take k) i ≤ k := by
 have h1 : Qa2 (L.take k) i ≤ (L.take k).length := List.countP_le_length
 have h2 : (L.take k).length ≤ k := by rw [List.length_take]; omega
 omega
def Qj4 (n : Nat) (f : Nat → Nat → Nat) (k : Nat) : List Nat := (List.range k).filter fun i => Qa2 (Y0 n f) i == 1
theorem QeK {n : Nat} {f : Nat → Nat → Nat} {k : Nat} (h : Qa2 (Y0 n f) k = 1) : Qj4 n f (k + 1) = Qj4 n f k ++ [k] := by
 unfold Qj4; rw [List.range_succ, List.filter_append]; simp [h]
theorem Qgt {n : Nat} {f : Nat → Nat → Nat} {k : Nat} (h : ¬ Qa2 (Y0 n f) k = 1) : Qj4 n f (k + 1) = Qj4 n f k := by
 unfold Qj4; rw [List.range_succ, List.filter_append]; simp [h]
theorem QrU (n : Nat) (f : Nat → Nat → Nat) (k : Nat) : (Qj4 n f k).length ≤ k := by
 have := List.length_filter_le (fun i => Qa2 (Y0 n f) i == 1) (List.range k)
 rwa [List.length_range] at this
theorem Qb1 (i : Nat) : Qg 1 1 [AV.p (.int .i64 i)] = [QeF i] := rfl
theorem QjP {L : List (Nat × Nat)} {k : Nat} {e : Nat × Nat} (h : L[k]? = some e) : (L.map pr2)[k]? = some (pr2 e) := Qq h
theorem QdL (n : Nat) (f : Nat → Nat → Nat) (ht : KP (XD n f) n f) (hu : FC Tryz.prog 63 [Xr (XD n f)] (i64 0)) : FC Tryz.prog 31 [Xr (XD n f)] (.tup [nvs (Qbc n f), i64 0]) := by
 refine Qd [2, 3] Tryz.func31 rfl rfl 49 Tryz.ntmps31 (Nat.le_of_ble_eq_true rfl) ?_
 intro E hN
 have h256 := ht.le
 have hlt := ht.lt
 have h1n := ht.pos
 refine JU ?_; refine zP (Qc hu rfl rfl rfl) ?_; refine Wi ?_
 refine QdH hN rfl (k := 1) (zs := [.int .i64 0]) rfl (y := 8) (by kernel_rfl) rfl rfl (n := n) (QE (by simp [XD])) (QE (by simp [XD])) (by omega) rfl rfl rfl rfl ?_
 refine Je ?_; refine zP (Qc (Qd7 n f ht) rfl rfl rfl) ?_; refine QJ ?_
 refine Qi (fun x : {k : Nat // k ≤ (Y0 n f).length ∧ True} => ⟨[(0, Xr (XD n f)), (5, .own 0 n), (20, prs (Y0 n f)), (21, i64 (Y0 n f).length), (22, i64 (x.1 : Nat))], [(0, .arr 3 1 (Qgo n ((Y0 n f).take x.1)))], 1⟩) (fun x => (Y0 n f).length - x.1) (⟨0, Nat.zero_le _, by trivial⟩) ?_ ?_
 ·
  exact Qa rfl (Xl ⟨(QE (by simp)), rfl, (Xu trivial)⟩) ⟨(Yl (by rw [Qdv]; rfl)), rfl, (QN (fun _ => rfl) _), trivial⟩
 rintro ⟨k, hk, gk⟩
 dsimp only
 refine JK 20 rfl (fun hl20 => ?_)
 refine QA ?_
 refine zq ?_ ?_ <;> intro h13
 ·
  have ltk : k < (Y0 n f).length := by simpa using h13
  obtain ⟨e, hke⟩ := Qk ltk
  have he := QoL hke
  refine QA ?_; refine zP (Qh rfl rfl rfl k rfl _ (QjP hke) rfl) ?_; refine Je ?_; refine zP (Qjp rfl rfl rfl 1 rfl (by decide) rfl rfl) ?_
  refine zL ?_; refine zP (JL rfl rfl rfl rfl QbN.symm e.2 rfl he.2.1) ?_
  refine zP (JG rfl rfl rfl QbN.symm (by intro x hx; obtain ⟨q, -, rfl⟩ := List.mem_map.1 hx; rfl) e.2 rfl (QoD he.2.1) (fun _ => rfl) rfl) ?_
  refine zP (Qa4 rfl rfl rfl (by have := Qwa (Y0 n f) e.2 k; omega)) ?_
  refine zP (JL rfl rfl rfl rfl QbN.symm e.2 rfl he.2.1) ?_
  refine Qb4 hN rfl rfl rfl QbN.symm e.2 rfl (by rw [QbN]; exact he.2.1) rfl rfl rfl rfl (by intro x hx; obtain ⟨q, -, rfl⟩ := List.mem_map.1 hx; rfl) rfl rfl rfl rfl ?_
  refine QJ ?_; refine Qb ?_
  exact ⟨⟨k + 1, ltk, trivial⟩, Qa rfl (QR ⟨(QE (by dsimp only; omega)), rfl, trivial⟩) ⟨(Yl (by exact QqU hke he.2.1)), rfl, (QN (fun _ => rfl) _), trivial⟩, by dsimp only; omega⟩
 have gek : (Y0 n f).length ≤ k := by simpa using h13
 refine Xz ?_
 refine Qu (QB 5 0 rfl (es := Qgo n (Y0 n f)) (by exact Yl (by rw [List.take_of_length_le gek])) QbN.symm (XA (fun _ => rfl) _) (JB (fun _ => rfl) _) rfl) ?_
 refine Je ?_; refine Qu (Qe8 rfl 8 3 1 rfl) ?_
 refine Qi (fun x : {k : Nat // k ≤ n ∧ True} => ⟨[(34, .sl (Qgo n (Y0 n f)) none), (35, i64 n), (36, i64 (x.1 : Nat)), (8, .sl ((Qj4 n f x.1).map QeF) (some 1))], [(1, .tok 3 1 (Qj4 n f x.1).length)], 2⟩) (fun x => n - x.1) (⟨0, Nat.zero_le _, by trivial⟩) ?_ ?_
 ·
  exact Qa rfl (Xu ⟨(QE (by simp [Qgo])), rfl, (Jg trivial)⟩) ⟨rfl, rfl, rfl, trivial⟩
 rintro ⟨k, hk, gk⟩
 dsimp only
 refine QA ?_
 refine zq ?_ ?_ <;> intro h31
 rotate_left
 ·
  have gek : n ≤ k := by simpa using h31
  obtain rfl : n = k := by omega
  refine Je ?_; refine zQ ?_
  rfl
 have ltk : k < n := by simpa using h31
 refine Je ?_; refine zP (Qh rfl rfl rfl k rfl _ (QoD ltk) rfl) ?_; refine JU ?_
 refine zq ?_ ?_ <;> intro h34
 ·
  have h14 : Qa2 (Y0 n f) k = 1 := by have := h34; simp at this; omega
  refine QC ?_; refine zP (Qj rfl rfl rfl rfl (by exact rfl) (by decide) (by decide)) ?_
  refine Xh hN rfl rfl rfl (by simp) rfl rfl (XA (fun _ => rfl) _) rfl (by have := QrU n f k; constructor <;> simp [Qb1] <;> omega) rfl rfl rfl rfl ?_
  refine QA ?_; refine Qb ?_
  exact ⟨⟨k + 1, ltk, trivial⟩, Qa rfl (Jg ⟨(QE (by dsimp only; omega)), rfl, (Qpu (by first | rw [Qgt h14] | (rw [QeK h14]; simp [Qb1]))), rfl, trivial⟩) ⟨(cgT (by first | rw [Qgt h14] | (rw [QeK h14]; simp [Qb1]))), rfl, rfl, trivial⟩, by dsimp only; omega⟩
 have h14 : ¬ Qa2 (Y0 n f) k = 1 := by have := h34; simp at this; omega
 refine QJ ?_; refine Qb ?_
 exact ⟨⟨k + 1, ltk, trivial⟩, Qa rfl (Jg ⟨(QE (by dsimp only; omega)), rfl, (Qpu (by first | rw [Qgt h14] | (rw [QeK h14]; simp [Qb1]))), rfl, trivial⟩) ⟨(cgT (by first | rw [Qgt h14] | (rw [QeK h14]; simp [Qb1]))), rfl, rfl, trivial⟩, by dsimp only; omega⟩
theorem QlP {n : Nat} {f : Nat → Nat → Nat} (h1 : 1 ≤ n) (hlt : ∀ i j, i < n → j < n → f i j < n) (i j : Nat) : XZ n f i j < n := Qc4 hlt (Qra h1) i j n (Nat.le_refl n)
def d1 (n : Nat) (f : Nat → Nat → Nat) (i j k : Nat) : Option Unit := if Qde f (XZ n f) i j k = true then none else some ()
def dX (n : Nat) (f : Nat → Nat → Nat) : Option Unit := ff (fun i => ff (fun j => ff (d1 n f i j) n 0) n 0) n 0
theorem QoV (n : Nat) (f : Nat → Nat → Nat) : dX n f = none ↔ QaM n f = true := by
 unfold dX QaM
 simp only [KH, List.all_eq_true, List.mem_range, d1, Nat.zero_le, true_implies]
 refine forall_congr' fun i => forall_congr' fun _ => forall_congr' fun j => forall_congr' fun _ => forall_congr' fun k => forall_congr' fun _ => ?_
 split <;> simp_all
theorem Qq8 {n : Nat} {f : Nat → Nat → Nat} (h : dX n f = none) : QaM n f = true := (QoV n f).1 h
theorem QuU {n : Nat} {f : Nat → Nat → Nat} (h : dX n f = some ()) : QaM n f = false := by
 rw [Bool.eq_false_iff]
 intro h2
 rw [(QoV n f).2 h2] at h; cases h
theorem QbG (n : Nat) (f : Nat → Nat → Nat) (ht : KP (XD n f) n f) (hu : FC Tryz.prog 63 [Xr (XD n f)] (i64 0)) : FC Tryz.prog 35 [Xr (XD n f)] (.tup [bl (QaM n f), i64 0]) := by
 refine Qd [2, 3] Tryz.func35 rfl rfl 67 Tryz.ntmps35 (Nat.le_of_ble_eq_true rfl) ?_
 intro E hN
 have h256 := ht.le
 have hlt := ht.lt
 have h1n := ht.pos
 have hm := QlP h1n hlt
 refine JU ?_; refine zP (Qc hu rfl rfl rfl) ?_; refine JA ?_; refine zP (Qc (QpP n f ht) rfl rfl rfl) ?_; refine XN ?_
 refine Qi (fun x : {i : Nat // i ≤ n ∧ ff (fun i => ff (fun j => ff (d1 n f i j) n 0) n 0) n i = dX n f} => ⟨[(0, Xr (XD n f)), (5, Xr (XD n (XZ n f))), (17, i64 n), (18, i64 (x.1 : Nat))], [], 0⟩) (fun x => n - x.1) (⟨0, Nat.zero_le _, by rfl⟩) ?_ ?_
 ·
  exact Qa rfl (Jg ⟨(QE (by simp [XD])), rfl, (Xu trivial)⟩) trivial
 rintro ⟨i, hi, gi⟩
 dsimp only
 refine QA ?_
 refine zq ?_ ?_ <;> intro h10
 rotate_left
 ·
  have gei : n ≤ i := by simpa using h10
  have e3 := Qgb gei gi
  refine QA ?_; refine zQ ?_
  rw [Qq8 e3]
 have lti : i < n := by simpa using h10
 refine Qeo ?_
 refine Qi (fun x : {j : Nat // j ≤ n ∧ (ff (fun j => ff (d1 n f i j) n 0) n j).or (ff (fun i => ff (fun j => ff (d1 n f i j) n 0) n 0) n (i + 1)) = dX n f} => ⟨[(0, Xr (XD n f)), (5, Xr (XD n (XZ n f))), (17, i64 n), (18, i64 (i : Nat)), (6, i64 (i : Nat)), (22, i64 n), (23, i64 (x.1 : Nat))], [], 0⟩) (fun x => n - x.1) (⟨0, Nat.zero_le _, by exact QiV lti gi rfl⟩) ?_ ?_
 ·
  exact Qa rfl (QR (Xu ⟨(QE (by simp [XD])), rfl, (Xu trivial)⟩)) trivial
 rintro ⟨j, hj, gj⟩
 dsimp only
 refine QA ?_
 refine zq ?_ ?_ <;> intro h19
 rotate_left
 ·
  have gej : n ≤ j := by simpa using h19
  refine QJ ?_; refine Qb ?_
  exact ⟨⟨i + 1, lti, (Qbs gej gj)⟩, Qa rfl (Xl ⟨(QE (by dsimp only; omega)), rfl, trivial⟩) trivial, by dsimp only; omega⟩
 have ltj : j < n := by simpa using h19
 refine Qeo ?_
 refine Qi (fun x : {k : Nat // k ≤ n ∧ (ff (d1 n f i j) n k).or ((ff (fun j => ff (d1 n f i j) n 0) n (j + 1)).or (ff (fun i => ff (fun j => ff (d1 n f i j) n 0) n 0) n (i + 1))) = dX n f} => ⟨[(0, Xr (XD n f)), (5, Xr (XD n (XZ n f))), (17, i64 n), (18, i64 (i : Nat)), (6, i64 (i : Nat)), (22, i64 n), (23, i64 (j : Nat)), (7, i64 (j : Nat)), (27, i64 n), (28, i64 (x.1 : Nat))], [], 0⟩) (fun x => n - x.1) (⟨0, Nat.zero_le _, by rw [← Option.or_assoc]; rw [Qa6 ltj] at gj; exact gj⟩) ?_ ?_
 ·
  exact Qa rfl (QR (QR ⟨(QE (by simp [XD])), rfl, (Xu trivial)⟩)) trivial
 rintro ⟨k, hk, gk⟩
 dsimp only
 refine QA ?_
 refine zq ?_ ?_ <;> intro h31
 rotate_left
 ·
  have gek : n ≤ k := by simpa using h31
  refine QJ ?_; refine Qb ?_
  exact ⟨⟨j + 1, ltj, (Qbs gek gk)⟩, Qa rfl (QR (Jg ⟨(QE (by dsimp only; omega)), rfl, trivial⟩)) trivial, by dsimp only; omega⟩
 have ltk : k < n := by simpa using h31
 refine JU ?_; refine Qy 32 (by kernel_rfl) (by kernel_rfl) ?_; refine QO ?_; refine zp (Qh rfl rfl rfl i rfl _ (XH lti) rfl) ?_
 refine QC ?_; refine zp (Qh rfl rfl rfl j rfl _ (XH ltj) rfl) ?_; refine QO ?_
 refine zp (Qh rfl rfl rfl k rfl _ (Xj ltk) rfl) ?_; refine zl ?_
 refine zp (Qh rfl rfl rfl (f j k) rfl _ (Xj (hlt j k ltj ltk)) rfl) ?_; refine QJ ?_
 refine zp (Qh rfl rfl rfl i rfl _ (XH lti) rfl) ?_; refine QO ?_; refine zp (Qh rfl rfl rfl j rfl _ (Xj ltj) rfl) ?_; refine zl ?_
 refine zp (Qh rfl rfl rfl (XZ n f i j) rfl _ (XH (hm i j)) rfl) ?_; refine QC ?_
 refine zp (Qh rfl rfl rfl i rfl _ (XH lti) rfl) ?_; refine QO ?_; refine zp (Qh rfl rfl rfl k rfl _ (Xj ltk) rfl) ?_; refine zl ?_
 refine zp (Qh rfl rfl rfl (XZ n f i k) rfl _ (Xj (hm i k)) rfl) ?_; refine zl ?_; change Qz _ _ _ _ _ _; refine QO ?_
 refine zq ?_ ?_ <;> intro h52
 ·
  have h14 : ¬ Qde f (XZ n f) i j k = true := by have := h52; simp [Qde] at this ⊢; omega
  refine QJ ?_; refine zQ ?_
  rw [QuU (QiD ltk gk (by rw [d1, if_neg h14]))]
 have h14 :  Qde f (XZ n f) i j k = true := by have := h52; simp [Qde] at this ⊢; omega
 refine QJ ?_; refine Qb ?_
 exact ⟨⟨k + 1, ltk, Qjr ltk gk (by rw [d1, if_pos h14])⟩, Qa rfl (QR (QR (Xu ⟨(QE (by dsimp only; omega)), rfl, trivial⟩))) trivial, by dsimp only; omega⟩
theorem QrL {a x : Nat} {l : List Nat} {k : Nat} (h : l[k]? = some x) : QdO a (l.take (k + 1)) = max (QdO a (l.take k)) x := by
 unfold QdO
 rw [List.take_add_one, h, List.foldl_append]; rfl
theorem QpM {a : Nat} {l : List Nat} {k : Nat} (h : l.length ≤ k) : QdO a (l.take k) = QdO a l := by rw [List.take_of_length_le h]
theorem Qtp (a : Nat) (l : List Nat) : FC Tryz.prog 66 [nvs (a :: l)] (i64 (QdO a l : Nat)) := by
 refine Qd [2] Tryz.func66 rfl rfl 25 Tryz.ntmps66 (Nat.le_of_ble_eq_true rfl) ?_
 intro E hN
 refine JK 0 rfl (fun hl0 => ?_)
 rw [List.length_cons] at hl0
 refine JU ?_
 refine zP (Xc (b := false) rfl rfl rfl (by simp; omega)) ?_
 refine Je ?_; refine zP (Qh rfl rfl rfl 0 rfl (QeF a) rfl rfl) ?_; refine JU ?_
 refine Qi (fun x : {k : Nat // k ≤ l.length ∧ True} => ⟨[(0, nvs (a :: l)), (3, i64 (QdO a (l.take x.1) : Nat)), (4, i64 ((x.1 : Nat) + 1))], [], 0⟩) (fun x => l.length - x.1) (⟨0, Nat.zero_le _, by trivial⟩) ?_ ?_
 ·
  exact Qa rfl (Xl trivial) trivial
 rintro ⟨k, hk, gk⟩
 dsimp only
 refine XJ ?_
 refine zq ?_ ?_ <;> intro h9
 rotate_left
 ·
  have gek : l.length ≤ k := by simpa using h9
  refine QA ?_; refine zQ ?_
  rw [QpM gek]
 have ltk : k < l.length := by simpa using h9
 obtain ⟨x, hx⟩ := Qk ltk
 refine Xz ?_
 refine zP (Qh rfl rfl rfl (k + 1) (by omega) (QeF x) (by rw [List.map_cons, List.getElem?_cons_succ]; exact Qq hx) rfl) ?_
 refine zL ?_; refine zP (QwF rfl rfl rfl) ?_; refine Je ?_; refine Qb ?_
 exact ⟨⟨k + 1, ltk, trivial⟩, Qa rfl (Xu ⟨(QE (by rw [QrL hx]; omega)), rfl, (QE (by dsimp only; omega)), rfl, trivial⟩) trivial, by dsimp only; omega⟩
def rkR (n : Nat) (r : Nat → Nat) : List (List AV) := (List.range n).map fun j => QeF (r j)
def upd (r : Nat → Nat) (j v : Nat) : Nat → Nat := fun a => if a = j then v else r a
theorem Qav {n : Nat} {r : Nat → Nat} : (rkR n r).length = n := by simp [rkR]
theorem QnN {n : Nat} {r : Nat → Nat} {i : Nat} (hi : i < n) : (rkR n r)[i]? = some (QeF (r i)) := by simp [rkR, hi]
theorem Qoe {n : Nat} {r : Nat → Nat} {j v : Nat} : (rkR n r).set j [i64 (v : Nat)] = rkR n (upd r j v) := by
 refine List.ext_getElem (by simp [rkR]) fun i h1 h2 => ?_
 rw [List.getElem_set]
 simp only [rkR, List.getElem_map, List.getElem_range, upd]
 by_cases h : j = i
 ·subst h; simp [QeF]
 rw [if_neg h, if_neg (fun e => h e.symm)]
theorem Qgp {n : Nat} {r : Nat → Nat} : ∀ e ∈ rkR n r, e.length = 1 := fun e he => by
 obtain ⟨q, -, rfl⟩ := List.mem_map.1 he; rfl
theorem Qqq : ∀ {l : List Nat} {g h : Nat → Nat}, (∀ x ∈ l, g x ≤ h x) → (∃ x ∈ l, g x < h x) → (l.map g).sum < (l.map h).sum
 | [], _, _, _, ⟨_, hx, _⟩ => by cases hx
 | a :: l, g, h, h1, ⟨x, hx, h2⟩ => by
  have hle : ∀ l : List Nat, (∀ x ∈ l, g x ≤ h x) → (l.map g).sum ≤ (l.map h).sum := by
   intro l
   induction l with
   | nil => intro _; exact Nat.le_refl _
   | cons b l ih =>
    intro hb
    rw [List.map_cons, List.map_cons, List.sum_cons, List.sum_cons]
    have := hb b (.head _)
    have := ih fun x hx => hb x (.tail _ hx)
    omega
  rw [List.map_cons, List.map_cons, List.sum_cons, List.sum_cons]
  have ha := h1 a (.head _)
  have hl := hle l fun x hx => h1 x (.tail _ hx)
  cases hx with
  | head => omega
  | tail _ hx =>
   have := Qqq (fun x hx => h1 x (.tail _ hx)) ⟨x, hx, h2⟩
   omega
def Qlx (n : Nat) (f : Nat → Nat → Nat) (r : Nat → Nat) : Nat := ((List.range n).map fun j => hF n f j - r j).sum
theorem Quo {n : Nat} {f : Nat → Nat → Nat} {r : Nat → Nat} {j v : Nat} (hj : j < n) (h1 : r j < v) (h2 : v ≤ hF n f j) : Qlx n f (upd r j v) < Qlx n f r := by
 refine Qqq (fun x _ => ?_) ⟨j, List.mem_range.2 hj, ?_⟩
 ·unfold upd
  split
  ·rename_i e; subst e; omega
  omega
 unfold upd
 rw [if_pos rfl]; omega
def QrR (n : Nat) (f : Nat → Nat → Nat) (r : Nat → Nat) : Prop := ∀ j, j < n → r j ≤ hF n f j
def QkO (n : Nat) (f : Nat → Nat → Nat) (r : Nat → Nat) (k : Nat) : Prop := ∀ q, q < k → ∀ e, (Y0 n f)[q]? = some e → r e.1 + 1 ≤ r e.2
theorem Qv5 {n : Nat} {f : Nat → Nat → Nat} {r : Nat → Nat} {j v : Nat} (h : QrR n f r) (h2 : v ≤ hF n f j) : QrR n f (upd r j v) := fun i hi => by
 unfold upd
 split
 ·rename_i e; subst e; exact h2
 exact h i hi
theorem Qv4 {n : Nat} {f : Nat → Nat → Nat} {r : Nat → Nat} (h : QkO n f r (Y0 n f).length) {i j : Nat} (hi : i < n) (hj : j < n) (hc : cov n f i j = true) : r i + 1 ≤ r j := by
 have hm : (i, j) ∈ Y0 n f := by
  unfold Y0
  refine List.mem_flatMap.2 ⟨i, List.mem_range.2 hi, ?_⟩
  unfold Qiu
  exact List.mem_map.2 ⟨j, List.mem_filter.2 ⟨List.mem_range.2 hj, hc⟩, rfl⟩
 obtain ⟨q, hq⟩ := List.getElem?_of_mem hm
 exact h q (List.getElem?_eq_some_iff.1 hq).1 _ hq
theorem Qwc {n : Nat} {f : Nat → Nat → Nat} {r : Nat → Nat} (h : QrR n f r) (hc : QkO n f r (Y0 n f).length) : rkR n r = (List.range n).map fun j => QeF (hF n f j) := by
 unfold rkR
 refine List.map_congr_left fun j hj => ?_
 have hj := List.mem_range.1 hj
 rw [Nat.le_antisymm (h j hj) (KI.hF_least (fun i j hi hj => Qv4 hc hi hj) j hj)]
theorem Qse {n : Nat} {f : Nat → Nat → Nat} (h : 1 ≤ n) : ∃ a l, (List.range n).map (hF n f) = a :: l ∧ hgt n f = QdO a l := by
 cases hl : (List.range n).map (hF n f) with
 | nil => have := congrArg List.length hl; simp at this; omega
 | cons a l =>
  refine ⟨a, l, rfl, ?_⟩
  unfold hgt
  rw [hl]
  show QdO (max 0 a) l = _
  rw [Nat.zero_max]
theorem QvB {n : Nat} {f : Nat → Nat → Nat} {r : Nat → Nat} {k m : Nat} (hk : m ≤ k) (h : QkO n f r k) : QkO n f r m := fun q hq => h q (by omega)
theorem Qwu {a b : Nat} {c c' : Bool} (h : c = true) (h1 : c' = false → a = b) (h2 : c' = true → a < b) : 2 * a + (if c' = true then 1 else 0) < 2 * b + (if c = true then 1 else 0) := by
 subst h
 cases c' with
 | true => have := h2 rfl; simp; omega
 | false => rw [h1 rfl]; simp
theorem Qub {n : Nat} {f : Nat → Nat → Nat} {r : Nat → Nat} {k : Nat} {e : Nat × Nat} (hk : (Y0 n f)[k]? = some e) (h : r e.1 + 1 ≤ r e.2) (hc : QkO n f r k) : QkO n f r (k + 1) := fun q hq x hx => by
 rcases Nat.lt_or_ge q k with h2 | h2
 ·exact hc q h2 x hx
 obtain rfl : q = k := by omega
 rw [hk] at hx; cases hx; exact h
theorem W7 {z : Nat} (n : Nat) (f : Nat → Nat → Nat) (ht : KP (XD n f) n f) (Lf : KI n f z) (hu : FC Tryz.prog 63 [Xr (XD n f)] (i64 0)) : FC Tryz.prog 36 [Xr (XD n f)] (.tup [i64 (hgt n f : Nat), i64 0]) := by
 refine Qd [2, 3] Tryz.func36 rfl rfl 51 Tryz.ntmps36 (Nat.le_of_ble_eq_true rfl) ?_
 intro E hN
 have h256 := ht.le
 have hlt := ht.lt
 have h1n := ht.pos
 obtain ⟨a, l, hal, hgt0⟩ := Qse (f := f) h1n
 refine JU ?_; refine zP (Qc hu rfl rfl rfl) ?_; refine JA ?_; refine zP (Qc (Qd7 n f ht) rfl rfl rfl) ?_; refine Je ?_
 refine QdH hN rfl (k := 1) (zs := [.int .i64 0]) rfl (y := 8) (by kernel_rfl) rfl rfl (n := n) (QE (by simp [XD])) (QE (by simp [XD])) (by omega) rfl rfl rfl rfl ?_
 refine XJ ?_
 refine Qi (fun x : {q : (Nat → Nat) × Bool // QrR n f q.1 ∧ (q.2 = false → QkO n f q.1 (Y0 n f).length)} => ⟨[(5, prs (Y0 n f)), (6, .own 0 n), (7, bl x.1.2)], [(0, .arr 3 1 (rkR n x.1.1))], 1⟩) (fun x => 2 * Qlx n f x.1.1 + (if x.1.2 = true then 1 else 0)) (⟨((fun _ => 0), true), fun _ _ => Nat.zero_le _, fun h => by cases h⟩) ?_ ?_
 ·
  exact Qa rfl (Xl trivial) ⟨(Yl (by rw [Qdv]; rfl)), rfl, (QN (fun _ => rfl) _), trivial⟩
 rintro ⟨⟨r, c⟩, hr, hcl⟩
 dsimp only at hr hcl ⊢
 refine QA ?_
 refine zq ?_ ?_ <;> intro h9
 rotate_left
 ·
  have h7 : c = false := h9
  refine QO ?_
  refine Qu (QB 6 0 rfl (es := (a :: l).map QeF) (by exact Yl (by rw [Qwc hr (hcl h7), ← hal, List.map_map]; rfl)) (by rw [List.length_map, ← hal]; simp) (XA (fun _ => rfl) _) (JB (fun _ => rfl) _) rfl) ?_
  refine QO ?_; refine zP (Qc (Qtp a l) rfl rfl rfl) ?_; refine QO ?_; refine zQ ?_
  rw [hgt0]
 have h7 : c = true := h9
 refine Wi ?_
 refine Qi (fun x : {x : Nat × (Nat → Nat) × Bool // x.1 ≤ (Y0 n f).length ∧ QrR n f x.2.1 ∧ (x.2.2 = false → x.2.1 = r ∧ QkO n f r x.1) ∧ (x.2.2 = true → Qlx n f x.2.1 < Qlx n f r)} => ⟨[(5, prs (Y0 n f)), (6, .own 0 n), (7, bl x.1.2.2), (21, prs (Y0 n f)), (22, i64 (Y0 n f).length), (23, i64 (x.1.1 : Nat))], [(0, .arr 3 1 (rkR n x.1.2.1))], 1⟩) (fun x => (Y0 n f).length - x.1.1) (⟨(0, r, false), Nat.zero_le _, hr, fun _ => ⟨rfl, fun q hq => absurd hq (Nat.not_lt_zero _)⟩, fun h => by cases h⟩) ?_ ?_
 ·
  exact Qa rfl (QR ⟨(QE (by simp)), rfl, (Xu trivial)⟩) ⟨rfl, rfl, (QN (fun _ => rfl) _), trivial⟩
 rintro ⟨⟨k, r', c'⟩, hk, hrl, hcf, hct⟩
 dsimp only at hk hrl hcf hct ⊢
 refine JK 21 rfl (fun hl21 => ?_)
 refine QA ?_
 refine zq ?_ ?_ <;> intro h17
 rotate_left
 ·
  have gek : (Y0 n f).length ≤ k := by simpa using h17
  refine Qc6 ?_
  exact ⟨⟨(r', c'), hrl, fun h => by have := hcf h; rw [this.1]; exact QvB gek this.2⟩, Qa rfl (Xl trivial) ⟨rfl, rfl, (QN (fun _ => rfl) _), trivial⟩, Qwu h7 (fun h => congrArg (Qlx n f) (hcf h).1) hct⟩
 have ltk : k < (Y0 n f).length := by simpa using h17
 obtain ⟨e, hke⟩ := Qk ltk
 have he := QoL hke
 have hst := Lf.hF_step he.1 he.2.1 he.2.2
 refine QA ?_; refine zP (Qh rfl rfl rfl k rfl _ (QjP hke) rfl) ?_; refine QA ?_; refine Qy 10 (by kernel_rfl) (by kernel_rfl) ?_
 refine zm ?_; refine zp (Qjp rfl rfl rfl 1 rfl (by decide) rfl rfl) ?_; refine zl ?_
 refine zp (JL rfl rfl rfl rfl Qav.symm e.2 rfl he.2.1) ?_
 refine zp (JG rfl rfl rfl Qav.symm Qgp e.2 rfl (QnN he.2.1) (fun _ => rfl) rfl) ?_; refine zm ?_
 refine zp (Qjp rfl rfl rfl 0 rfl (by decide) rfl rfl) ?_; refine zl ?_; refine zp (JL rfl rfl rfl rfl Qav.symm e.1 rfl he.1) ?_
 refine zp (JG rfl rfl rfl Qav.symm Qgp e.1 rfl (QnN he.1) (fun _ => rfl) rfl) ?_; change Qz _ _ _ _ _ _; refine QO ?_
 refine zq ?_ ?_ <;> intro h30
 rotate_left
 ·
  have h12 : r' e.1 + 1 ≤ r' e.2 := by have := h30; simp at this; omega
  refine QJ ?_; refine Qb ?_
  exact ⟨⟨(k + 1, r', c'), ltk, hrl, (fun h => ⟨(hcf h).1, Qub hke ((hcf h).1 ▸ h12) (hcf h).2⟩), hct⟩, Qa rfl (QR (Xu ⟨(QE (by dsimp only; omega)), rfl, trivial⟩)) ⟨(Yl (by first | rfl | exact Qoe (v := r' e.1 + 1))), rfl, (QN (fun _ => rfl) _), trivial⟩, by dsimp only; omega⟩
 have h12 : r' e.2 ≤ r' e.1 := by have := h30; simp at this; omega
 have hv2 : r' e.1 + 1 ≤ hF n f e.2 := by have := hrl e.1 he.1; omega
 have hds : Qlx n f (upd r' e.2 (r' e.1 + 1)) < Qlx n f r := by
  have h1 := Quo he.2.1 (show r' e.2 < r' e.1 + 1 by omega) hv2
  cases c' with
  | true => have := hct rfl; omega
  | false => rw [(hcf rfl).1] at h1 ⊢; exact h1
 refine Qy 10 (by kernel_rfl) (by kernel_rfl) ?_; refine zm ?_; refine zp (Qjp rfl rfl rfl 1 rfl (by decide) rfl rfl) ?_; refine QO ?_
 refine zp (Qjp rfl rfl rfl 0 rfl (by decide) rfl rfl) ?_; refine zl ?_; refine zp (JL rfl rfl rfl rfl Qav.symm e.1 rfl he.1) ?_
 refine zp (JG rfl rfl rfl Qav.symm Qgp e.1 rfl (QnN he.1) (fun _ => rfl) rfl) ?_
 refine zp (Qa4 rfl rfl rfl (by have := Lf.hF_lt he.1; have := hrl e.1 he.1; omega)) ?_
 refine zp (JL rfl rfl rfl rfl Qav.symm e.2 rfl he.2.1) ?_; change Qz _ _ _ _ _ _
 refine Qb4 hN rfl rfl rfl Qav.symm e.2 rfl (by rw [Qav]; exact he.2.1) rfl rfl rfl rfl Qgp rfl rfl rfl rfl ?_
 refine QA ?_; refine Qb ?_
 exact ⟨⟨(k + 1, upd r' e.2 (r' e.1 + 1), true), ltk, Qv5 hrl hv2, (fun h => by cases h), fun _ => hds⟩, Qa rfl (QR (Xu ⟨(QE (by dsimp only; omega)), rfl, trivial⟩)) ⟨(Yl (by first | rfl | exact Qoe (v := r' e.1 + 1))), rfl, (QN (fun _ => rfl) _), trivial⟩, by dsimp only; omega⟩
end Go.Proofs.YtaecccdkjmipeaaGreat
