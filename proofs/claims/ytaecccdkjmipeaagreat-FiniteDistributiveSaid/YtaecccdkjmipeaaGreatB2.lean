/-
  Contracts: descriptions of lattices are checked.
-/
import Derived.Test.YtaecccdkjmipeaaGreatA4
import Derived.Test.YtaecccdkjmipeaaGreatTAB
namespace Go.Proofs.YtaecccdkjmipeaaGreat
set_option maxRecDepth 100000
set_option maxHeartbeats 1000000
open Go.RowKit
def Ye (c : Int) : Bool := (decide (97 ≤ c) && decide (c ≤ 122)) || (decide (48 ≤ c) && decide (c ≤ 57)) || c == 45
def Qoc : Nm → Bool
 | c :: _ => decide (97 ≤ (c.toNat : Int)) && decide ((c.toNat : Int) ≤ 122)
 | [] => false
def XV (s : Nm) : Bool := decide (s.length ≤ 16) && Qoc s && s.all fun c => Ye c.toNat
def Qo : List Nm → Bool
 | a :: b :: r => Op.bytesLess a b && Qo (b :: r)
 | _ => true
theorem QlG (c : Int) : FC Tryz.prog 173 [.p (.int .u8 c)] (bl (Ye c)) := by
 refine Qd [2] Tryz.func173 rfl rfl 21 Tryz.ntmps173 (Nat.le_of_ble_eq_true rfl) ?_
 intro E hN
 refine JU ?_
 refine zc 5 ?_ ?_ <;> intro h2
 rotate_left
 ·
  refine Xz ?_
  refine zc 12 ?_ ?_ <;> intro h8
  ·
   refine QA ?_
   refine zc 17 ?_ ?_ <;> intro h9
   ·
    refine QJ ?_; refine zQ ?_
    simp [Ye, *]
   refine QJ ?_; refine zQ ?_
   simp [Ye, *]
  refine JU ?_; refine zQ ?_
  simp [Ye, *]
 refine QJ ?_
 refine zc 9 ?_ ?_ <;> intro h3
 ·
  refine JA ?_; refine zQ ?_
  simp [Ye, *]
 refine QC ?_
 refine zc 12 ?_ ?_ <;> intro h4
 ·
  refine QO ?_; refine uP (JI h3) (XI rfl rfl h4 rfl) ?_; refine QO ?_
  refine zc 17 ?_ ?_ <;> intro h5
  ·
   refine QJ ?_; refine zQ ?_
   simp [Ye, *]
  refine QJ ?_; refine zQ ?_
  simp [Ye, *]
 refine QO ?_; refine uP (JI h3) (Ji rfl rfl h4 rfl) ?_; refine Je ?_; refine zQ ?_
 simp [Ye, *]
theorem QeI (s : Nm) : FC Tryz.prog 147 [sv s] (bl (XV s)) := by
 refine Qd [2] Tryz.func147 rfl rfl 33 Tryz.ntmps147 (Nat.le_of_ble_eq_true rfl) ?_
 intro E hN
 refine YJ ?_
 refine zc 7 ?_ ?_ <;> intro h3
 ·
  refine Qil ?_; refine zQ ?_
  exact Qt (by first | (simp_all [XV]; done) | (simp_all [XV]; intros; omega) | (have e : s = [] := (by simp_all); subst e; rfl))
 obtain ⟨c0, hc0, hh⟩ : ∃ c, s[0]? = some c ∧ Qoc s = (decide (97 ≤ (c.toNat : Int)) && decide ((c.toNat : Int) ≤ 122)) := by
  cases s with
  | nil => simp at h3
  | cons c r => exact ⟨c, rfl, rfl⟩
 refine QA ?_
 refine zc 12 ?_ ?_ <;> intro h5
 ·
  refine WG ?_; refine zQ ?_
  exact Qt (by first | (simp_all [XV]; done) | (simp_all [XV]; intros; omega) | (have e : s = [] := (by simp_all); subst e; rfl))
 have h16 : (s.length : Int) ≤ 16 := by simpa using h5
 refine KO ?_; refine uP (JI h5) (Wd rfl rfl rfl 0 rfl _ hc0) ?_; refine QC ?_
 refine zc 17 ?_ ?_ <;> intro h7
 ·
  refine JU ?_; refine zQ ?_
  exact Qt (by first | (simp_all [XV]; done) | (simp_all [XV]; intros; omega) | (have e : s = [] := (by simp_all); subst e; rfl))
 refine KO ?_; refine uP (JI h7) (Wd rfl rfl rfl 0 rfl _ hc0) ?_; refine QC ?_
 refine zq ?_ ?_ <;> intro h9
 ·
  refine QC ?_; refine zQ ?_
  exact Qt (by first | (simp_all [XV]; done) | (simp_all [XV]; intros; omega) | (have e : s = [] := (by simp_all); subst e; rfl))
 refine JU ?_
 refine Qi (fun x : {k : Nat // k ≤ (s).length ∧ (s.drop k).all (fun c => Ye c.toNat) = s.all (fun c => Ye c.toNat)} => ⟨[(0, sv s), (23, i64 s.length), (24, i64 (x.1 : Nat))], [], 0⟩) (fun x => (s).length - x.1) (⟨0, Nat.zero_le _, by simp⟩) ?_ ?_
 ·
  exact Qa rfl (Xl trivial) trivial
 rintro ⟨k, hk, hg⟩
 dsimp only
 refine QA ?_
 refine zq ?_ ?_ <;> intro h13
 rotate_left
 ·
  have hge : (s).length ≤ k := by simpa using h13
  refine QJ ?_; refine zQ ?_
  exact Qt (by rw [XV, X4 hg hge, hh]; simp_all; omega)
 have hlt : k < (s).length := by simpa using h13
 obtain ⟨x, hx⟩ := Qk hlt
 refine JA ?_; refine zP (Wd rfl rfl rfl _ rfl _ (by assumption)) ?_; refine zP (Qc (QlG _) rfl rfl rfl) ?_; refine QO ?_
 refine zq ?_ ?_ <;> intro h15
 ·
  refine QC ?_; refine zQ ?_
  exact Qt (by rw [XV, Q6 hg hx (by simp_all)]; simp)
 refine QJ ?_; refine Qb ?_
 exact ⟨⟨k + 1, hlt, XF hg hx (by simp_all)⟩, Qa rfl (Jg ⟨(QE (by dsimp only; omega)), rfl, trivial⟩) trivial, by dsimp only; omega⟩
theorem QfA {l : List Nm} {k : Nat} {a b : Nm} (hk : 1 ≤ k) (hg : Qo (l.drop (k - 1)) = Qo l) (ha : l[k - 1]? = some a) (hb : l[k]? = some b) : Qo l = (Op.bytesLess a b && Qo (l.drop k)) := by
 rw [← hg, XL ha, show k - 1 + 1 = k by omega, XL hb]; rfl
theorem QhZ {l : List Nm} {k : Nat} (hg : Qo (l.drop (k - 1)) = Qo l) (h : l.length ≤ k) : Qo l = true := by
 rw [← hg]
 have : (l.drop (k - 1)).length ≤ 1 := by simp; omega
 match h2 : l.drop (k - 1), this with
 | [], _ => rfl
 | [_], _ => rfl
 | _ :: _ :: _, h => simp at h
def X5 (s : Nm) : List Nm → Nat → Int
 | [], _ => -1
 | x :: l, i => if s == x then (i : Int) else X5 s l (i + 1)
def Jn (l : List Nm) (s : Nm) : Bool := l.any (s == ·)
theorem Qdu (s : Nm) : ∀ (l : List Nm) (i : Nat), decide (X5 s l i ≥ 0) = Jn l s
 | [], i => by simp [X5, Jn]
 | x :: l, i => by
  unfold X5 Jn
  by_cases h : (s == x) = true
  ·rw [if_pos h, List.any_cons, h]; simp
  rw [if_neg h, List.any_cons, Qdu s l (i + 1)]; simp [Jn, h]
def JR (a b : List Nm) : Bool := a.all (Jn b)
theorem QaC (l : List Nm) : FC Tryz.prog 149 [XU l] (bl (Qo l)) := by
 refine Qd [2] Tryz.func149 rfl rfl 20 Tryz.ntmps149 (Nat.le_of_ble_eq_true rfl) ?_
 intro E hN
 refine JK 0 rfl (fun hl0 => ?_)
 refine XN ?_
 refine Qi (fun x : {k : Nat // 1 ≤ k ∧ Qo (l.drop (k - 1)) = Qo l} => ⟨[(0, XU l), (3, i64 (x.1 : Nat))], [], 0⟩) (fun x => l.length - x.1) (⟨1, Nat.le_refl _, rfl⟩) ?_ ?_
 ·
  exact Qa rfl (Jg trivial) trivial
 ·rintro ⟨k, hk, hg⟩
  dsimp only
  refine XJ ?_
  refine zq ?_ ?_ <;> intro h4
  rotate_left
  ·
   have hge : l.length ≤ k := by simpa using h4
   refine QJ ?_; refine zQ ?_
   exact Qt (QhZ hg hge).symm
  ·
   have hlt : k < l.length := by simpa using h4
   obtain ⟨x, hx⟩ := Qk hlt
   obtain ⟨y, hy⟩ := Qk (show k - 1 < l.length by omega)
   have hs := QfA hk hg hy hx
   refine QJ ?_; refine Qy 9 (by kernel_rfl) (by kernel_rfl) ?_; refine QO ?_; refine zp (WJ rfl rfl rfl (by omega)) ?_
   refine zp (Qh rfl rfl rfl (k - 1) (by omega) _ (Qq hy) rfl) ?_; refine QC ?_; refine zp (Qh rfl rfl rfl k rfl _ (Qq hx) rfl) ?_
   refine zl ?_; change Qz _ _ _ _ _ _; refine QO ?_
   refine zq ?_ ?_ <;> intro h10
   ·
    refine QC ?_; refine zQ ?_
    exact Qt (by rw [hs]; simp_all)
   ·
    have hn : Qo (l.drop (k + 1 - 1)) = Qo l := by
     rw [hs, Nat.add_sub_cancel]; simp_all
    refine QA ?_; refine Qb ?_
    
    exact ⟨⟨k + 1, by omega, hn⟩, Qa rfl (Xu ⟨(QE (by dsimp only; omega)), rfl, trivial⟩) trivial, by dsimp only; omega⟩
theorem QeV (l : List Nm) (s : Nm) : FC Tryz.prog 170 [XU l, sv s] (i64 (X5 s l 0)) := by
 refine Qd [4] Tryz.func170 rfl rfl 19 Tryz.ntmps170 (Nat.le_of_ble_eq_true rfl) ?_
 intro E hN
 refine JK 0 rfl (fun hl0 => ?_)
 refine JA ?_
 refine Qi (fun x : {k : Nat // k ≤ (l).length ∧ X5 s (l.drop k) k = X5 s l 0} => ⟨[(0, XU l), (1, sv s), (7, i64 l.length), (8, i64 (x.1 : Nat))], [], 0⟩) (fun x => (l).length - x.1) (⟨0, Nat.zero_le _, by simp⟩) ?_ ?_
 ·
  exact Qa rfl (Jg ⟨(QE (by simp)), rfl, (Xu trivial)⟩) trivial
 rintro ⟨k, hk, hg⟩
 dsimp only
 refine QA ?_
 refine zq ?_ ?_ <;> intro h6
 rotate_left
 ·
  have hge : (l).length ≤ k := by simpa using h6
  refine QJ ?_; refine zQ ?_
  exact Q2 (by rw [← hg, List.drop_of_length_le hge]; rfl)
 have hlt : k < (l).length := by simpa using h6
 obtain ⟨x, hx⟩ := Qk hlt
 have hs : X5 s l 0 = if s == x then (k : Int) else X5 s (l.drop (k + 1)) (k + 1) := by rw [← hg, XL hx]; rfl
 refine Wi ?_; refine zP (Qh rfl rfl rfl k rfl _ (Qq hx) rfl) ?_; refine QC ?_
 refine zq ?_ ?_ <;> intro h9
 ·
  refine QJ ?_; refine zQ ?_
  exact Q2 (by rw [hs, if_pos (by simp_all)])
 have hn : X5 s (l.drop (k + 1)) (k + 1) = X5 s l 0 := by rw [hs, if_neg (by simp_all)]
 refine QJ ?_; refine Qb ?_
 exact ⟨⟨k + 1, hlt, hn⟩, Qa rfl (Xl ⟨(QE (by dsimp only; omega)), rfl, trivial⟩) trivial, by dsimp only; omega⟩
theorem Qf7 (l : List Nm) (s : Nm) : FC Tryz.prog 148 [XU l, sv s] (bl (Jn l s)) := by
 refine Qd [4] Tryz.func148 rfl rfl 9 Tryz.ntmps148 (Nat.le_of_ble_eq_true rfl) ?_
 intro E hN
 refine XJ ?_; refine zP (Qc (QeV l s) rfl rfl rfl) ?_; refine QO ?_; refine zQ ?_
 exact Qt (Qdu s l 0)
theorem QhJ (l : List Nm) (s : Nm) : FC Tryz.prog 109 [XU l, sv s] (bl (Jn l s)) := by
 refine Qd [4] Tryz.func109 rfl rfl 8 Tryz.ntmps109 (Nat.le_of_ble_eq_true rfl) ?_
 intro E hN
 refine XJ ?_; refine zP (Qc (Qf7 l s) rfl rfl rfl) ?_; refine zS ?_; refine zQ ?_
 rfl
theorem QbC (a b : List Nm) : FC Tryz.prog 108 [XU a, XU b] (bl (JR a b)) := by
 refine Qd [4] Tryz.func108 rfl rfl 18 Tryz.ntmps108 (Nat.le_of_ble_eq_true rfl) ?_
 intro E hN
 refine JK 0 rfl (fun hl0 => ?_)
 refine JA ?_
 refine Qi (fun x : {k : Nat // k ≤ (a).length ∧ (a.drop k).all (Jn b) = a.all (Jn b)} => ⟨[(1, XU b), (7, XU a), (8, i64 a.length), (9, i64 (x.1 : Nat))], [], 0⟩) (fun x => (a).length - x.1) (⟨0, Nat.zero_le _, by simp⟩) ?_ ?_
 ·
  exact Qa rfl (Jg ⟨(QE (by simp)), rfl, (Xu trivial)⟩) trivial
 rintro ⟨k, hk, hg⟩
 dsimp only
 refine QA ?_
 refine zq ?_ ?_ <;> intro h7
 rotate_left
 ·
  have hge : (a).length ≤ k := by simpa using h7
  refine QJ ?_; refine zQ ?_
  exact Qt (X4 hg hge).symm
 have hlt : k < (a).length := by simpa using h7
 obtain ⟨x, hx⟩ := Qk hlt
 refine QA ?_; refine zP (Qh rfl rfl rfl k rfl _ (Qq hx) rfl) ?_; refine Xz ?_; refine zP (Qc (QhJ b _) rfl rfl rfl) ?_
 refine QO ?_
 refine zq ?_ ?_ <;> intro h10
 ·
  refine QC ?_; refine zQ ?_
  exact Qt (Q6 hg hx (by simp_all)).symm
 refine QJ ?_; refine Qb ?_
 exact ⟨⟨k + 1, hlt, XF hg hx (by simp_all)⟩, Qa rfl (Xl ⟨(QE (by dsimp only; omega)), rfl, trivial⟩) trivial, by dsimp only; omega⟩
end Go.Proofs.YtaecccdkjmipeaaGreat
namespace Go.Proofs.YtaecccdkjmipeaaGreat
set_option maxRecDepth 100000
set_option maxHeartbeats 1000000
open Go.RowKit
def Yh (b : Bool) (e : Int) : Int := if b then e else 0
def Jr (k : Int) : Bool := k == 4 || k == 8 || k == 5 || k == 6 || k == 10
def Ja (k : Int) : Bool := k == 2 || k == 3
def Y5 (k : Int) : Bool := k == 1 || k == 9 || Ja k || Jr k || k == 7
def Yb (l : Qs) : Int := if l.k = 5 then 1 else if l.k = 7 then 2 else if l.k = 6 then l.nm.length else 0
def KE (l : Qs) : Bool := ((l.ps.length : Int) != Yb l) || (!Jr l.k && decide ((l.nm.length : Int) > 0)) || (!(l.k == 10) && decide ((l.rs.length : Int) > 0)) || (!Ja l.k && (l.lo != 0 || l.hi != 0))
def Yg (l : Qs) : Bool := (l.k == 6 || l.k == 10) && (l.nm.length : Int) == 0
def Xq (l : Qs) : Int := if Y5 l.k then Yh (KE l || Yg l) 1 else 1
def Kb (k : Int) : Int := if k = 6 then 8 else if k = 10 then 12 else 32
def J7 (l : Qs) : Int := Yh (decide ((l.nm.length : Int) > Kb l.k) || decide ((l.rs.length : Int) > 32)) 6
def X9 (l : Qs) : Int := Yh (decide (l.lo > l.hi) || decide (l.lo < -1000000000) || decide (l.lo > 1000000000) || decide (l.hi < -1000000000) || decide (l.hi > 1000000000)) 5
def chainB (l : Qs) : Bool :=
 if l.k == 1 || l.k == 2 || l.k == 3 then true
 else if l.k == 7 then (match _h : l.ps with | [a, b] => chainB a && chainB b | _ => false)
 else false
termination_by l
decreasing_by all_goals exact Qs.sizeOf_ps (by rw [_h]; simp)
theorem Qc0 {l a b : Qs} (hk : (l.k == 7) = true) (h : l.ps = [a, b]) : chainB l = (chainB a && chainB b) := by
 have hk' : l.k = 7 := by simpa using hk
 conv => lhs; rw [chainB]
 rw [if_neg (by rw [hk']; decide), if_pos hk]
 split
 ·rename_i c d h2; rw [h] at h2; cases h2; rfl
 rename_i h2; exact absurd h (h2 a b)
theorem YO {l : Qs} (h1 : (l.k == 1) = false) (h2 : (l.k == 2) = false) (h3 : (l.k == 3) = false) (h : (l.k == 7) = false ∨ l.ps.length ≠ 2) : chainB l = false := by
 rw [chainB, if_neg (by simp [h1, h2, h3])]
 rcases h with h | h
 ·rw [if_neg (by simp [h])]
 split
 ·split
  ·rename_i h4; rw [h4] at h; simp at h
  rfl
 rfl
theorem QeG {l : Qs} (h : (l.k == 1 || l.k == 2 || l.k == 3) = true) : chainB l = true := by rw [chainB, if_pos h]
def JH (l : Qs) : Int := Yh (l.k == 7 && !(match l.ps with | a :: _ => chainB a | [] => false)) 4
def Qab (l : Qs) (q : Nm × Nat) : Bool := XV q.1 && !(l.k == 6 && Jn (l.nm.take q.2) q.1)
def Wf (nm : List Nm) (r : Ru) : Bool := !((r.i.length : Int) == 0) && Qo r.i && JR r.i nm && Jn nm r.t
def Jw (l : Qs) : Int := if l.nm.zipIdx.all (Qab l) && (l.k == 6 || Qo l.nm) && l.rs.all (Wf l.nm) then 0 else 3
def orE : List Int → Int
 | [] => 0
 | x :: l => if x == 0 then orE l else x
def J4 (f : Qs → Int → Int × Int) : List Qs → Int → Int × Int
 | [], n => (0, n)
 | q :: r, n => if (f q n).1 == 0 then J4 f r (f q n).2 else f q n
def Q7 : Nat → Qs → Int → Int × Int
 | 0, _, n => (6, n)
 | f + 1, l, n =>
  if n ≥ 64 then (6, n)
  else if Xq l != 0 then (Xq l, n + 1)
  else if orE [J7 l, Jw l, X9 l, JH l] != 0 then (orE [J7 l, Jw l, X9 l, JH l], n + 1)
  else J4 (Q7 f) l.ps (n + 1)
def Q0 (l : Qs) : Int := (Q7 6 l 0).1
theorem QiK {f : Qs → Int → Int × Int} (hf : ∀ q n, 0 ≤ n → 0 ≤ (f q n).2) : ∀ (l : List Qs) (n : Int), 0 ≤ n → 0 ≤ (J4 f l n).2
 | [], n, h => h
 | q :: r, n, h => by
  unfold J4
  split
  ·exact QiK hf r _ (hf q n h)
  exact hf q n h
theorem Qfp : ∀ (f : Nat) (l : Qs) (n : Int), 0 ≤ n → 0 ≤ (Q7 f l n).2
 | 0, _, _, h => h
 | f + 1, l, n, h => by
  unfold Q7
  split
  ·exact h
  split
  ·show (0 : Int) ≤ n + 1; omega
  split
  ·show (0 : Int) ≤ n + 1; omega
  exact QiK (Qfp f) _ _ (by omega)
theorem Qem {l : List Nm} {k : Nat} {x : Nm} (h : l[k]? = some x) : l.zipIdx[k]? = some (x, k) := by simp [h]
theorem Wy (b : Bool) (e : Int) : FC Tryz.prog 146 [bl b, i64 e] (i64 (Yh b e)) := by
 refine Qd [4] Tryz.func146 rfl rfl 7 Tryz.ntmps146 (Nat.le_of_ble_eq_true rfl) ?_
 intro E hN
 refine JU ?_
 refine zq ?_ ?_ <;> intro h1
 ·
  refine QJ ?_; refine zQ ?_
  exact Q2 (by simp [Yh, *])
 refine QJ ?_; refine zQ ?_
 exact Q2 (by simp [Yh, *])
theorem Qsm (l : Qs) : FC Tryz.prog 102 [.agg (QF l)] (i64 (Xq l)) := by
 refine Qd [2] Tryz.func102 rfl rfl 89 Tryz.ntmps102 (Nat.le_of_ble_eq_true rfl) ?_
 intro E hN
 refine JA ?_
 refine Qmv (⟨[(1, .ptr 0 0), (3, i64 (Yb l)), (4, bl (Jr l.k)), (5, bl (l.k == 10)), (6, bl (Ja l.k))], [(0, .var 26 (QF l))], 1⟩) (Y5 l.k = true) ?_ ?_
 ·
  refine JA ?_
  refine zq ?_ ?_ <;> intro h5
  ·
   refine QO ?_; refine XM ?_
   exact ⟨(by simp_all [Y5, Jr, Ja]), Qa rfl (Xu ⟨(QE (by simp_all [Yb])), rfl, (KG (by simp_all [Jr])), rfl, (KG (by simp_all)), rfl, (KG (by simp_all [Ja])), rfl, trivial⟩) ⟨rfl, rfl, rfl, trivial⟩⟩
  refine QJ ?_
  refine zq ?_ ?_ <;> intro h6
  ·
   refine XM ?_
   exact ⟨(by simp_all [Y5, Jr, Ja]), Qa rfl (Xu ⟨(QE (by simp_all [Yb])), rfl, (KG (by simp_all [Jr])), rfl, (KG (by simp_all)), rfl, (KG (by simp_all [Ja])), rfl, trivial⟩) ⟨rfl, rfl, rfl, trivial⟩⟩
  refine Je ?_
  refine zq ?_ ?_ <;> intro h7
  ·
   refine QJ ?_; refine Qb ?_
   exact ⟨(by simp_all [Y5, Jr, Ja]), Qa rfl (Xu ⟨(QE (by simp_all [Yb])), rfl, (KG (by simp_all [Jr])), rfl, (KG (by simp_all)), rfl, (KG (by simp_all [Ja])), rfl, trivial⟩) ⟨rfl, rfl, rfl, trivial⟩⟩
  refine QJ ?_
  refine zq ?_ ?_ <;> intro h8
  ·
   refine QO ?_; refine Qb ?_
   exact ⟨(by simp_all [Y5, Jr, Ja]), Qa rfl (Xu ⟨(QE (by simp_all [Yb])), rfl, (KG (by simp_all [Jr])), rfl, (KG (by simp_all)), rfl, (KG (by simp_all [Ja])), rfl, trivial⟩) ⟨rfl, rfl, rfl, trivial⟩⟩
  refine Je ?_
  refine zq ?_ ?_ <;> intro h9
  ·
   refine QJ ?_; refine Qb ?_
   exact ⟨(by simp_all [Y5, Jr, Ja]), Qa rfl (Xu ⟨(QE (by simp_all [Yb])), rfl, (KG (by simp_all [Jr])), rfl, (KG (by simp_all)), rfl, (KG (by simp_all [Ja])), rfl, trivial⟩) ⟨rfl, rfl, rfl, trivial⟩⟩
  refine QJ ?_
  refine zq ?_ ?_ <;> intro h10
  ·
   refine QO ?_; refine Qb ?_
   exact ⟨(by simp_all [Y5, Jr, Ja]), Qa rfl (Xu ⟨(QE (by simp_all [Yb])), rfl, (KG (by simp_all [Jr])), rfl, (KG (by simp_all)), rfl, (KG (by simp_all [Ja])), rfl, trivial⟩) ⟨rfl, rfl, rfl, trivial⟩⟩
  refine QA ?_
  refine zq ?_ ?_ <;> intro h11
  ·
   refine QC ?_; refine Qb ?_
   exact ⟨(by simp_all [Y5, Jr, Ja]), Qa rfl (Xu ⟨(QE (by simp_all [Yb])), rfl, (KG (by simp_all [Jr])), rfl, (KG (by simp_all)), rfl, (KG (by simp_all [Ja])), rfl, trivial⟩) ⟨rfl, rfl, rfl, trivial⟩⟩
  refine QA ?_
  refine zq ?_ ?_ <;> intro h12
  ·
   refine QO ?_; refine Qb ?_
   exact ⟨(by simp_all [Y5, Jr, Ja]), Qa rfl (Xu ⟨(QE (by simp_all [Yb])), rfl, (KG (by simp_all [Jr])), rfl, (KG (by simp_all)), rfl, (KG (by simp_all [Ja])), rfl, trivial⟩) ⟨rfl, rfl, rfl, trivial⟩⟩
  refine QA ?_
  refine zq ?_ ?_ <;> intro h13
  ·
   refine Qy 4 (by kernel_rfl) (by kernel_rfl) ?_; refine QC ?_; refine zp (JP rfl rfl) ?_; change Qz _ _ _ _ _ _; refine zS ?_
   refine Qb ?_
   exact ⟨(by simp_all [Y5, Jr, Ja]), Qa rfl (Xu ⟨(QE (by simp_all [Yb])), rfl, (KG (by simp_all [Jr])), rfl, (KG (by simp_all)), rfl, (KG (by simp_all [Ja])), rfl, trivial⟩) ⟨rfl, rfl, rfl, trivial⟩⟩
  refine QA ?_
  refine zq ?_ ?_ <;> intro h17
  ·
   refine QC ?_; refine Qb ?_
   exact ⟨(by simp_all [Y5, Jr, Ja]), Qa rfl (Xu ⟨(QE (by simp_all [Yb])), rfl, (KG (by simp_all [Jr])), rfl, (KG (by simp_all)), rfl, (KG (by simp_all [Ja])), rfl, trivial⟩) ⟨rfl, rfl, rfl, trivial⟩⟩
  refine QC ?_; refine zQ ?_
  exact Q2 (by simp_all [Xq, Y5, Jr, Ja])
 intro hkn
 refine QaL (⟨[(1, .ptr 0 0), (7, bl (KE l))], [(0, .var 26 (QF l))], 1⟩) ?_ ?_
 ·
  refine Xz ?_
  refine zc 36 ?_ ?_ <;> intro h25
  ·
   refine Yd ?_; refine XN ?_; refine Qb ?_
   exact Qa rfl (Xu ⟨(KG (by simp_all [KE])), rfl, trivial⟩) ⟨rfl, rfl, rfl, trivial⟩
  refine QC ?_
  refine zc 39 ?_ ?_ <;> intro h19
  rotate_left
  ·
   refine QJ ?_; refine uP (JI h25) (Ji rfl rfl (m1 (n0 h19)) rfl) ?_; refine QA ?_
   refine zc 49 ?_ ?_ <;> intro h20
   rotate_left
   ·
    refine XN ?_
    refine zc 59 ?_ ?_ <;> intro h21
    rotate_left
    ·
     refine YJ ?_; refine Qb ?_
     exact Qa rfl (Xu ⟨(KG (by simp_all [KE])), rfl, trivial⟩) ⟨rfl, rfl, rfl, trivial⟩
    refine QJ ?_
    refine zc 63 ?_ ?_ <;> intro h58
    ·
     refine QC ?_; refine uP (X7 (m0 (n1 h21))) (XI rfl rfl h58 rfl) ?_; refine QC ?_; refine Qb ?_
     exact Qa rfl (Xu ⟨(KG (by simp_all [KE])), rfl, trivial⟩) ⟨rfl, rfl, rfl, trivial⟩
    refine QC ?_; refine uP (X7 (m0 (n1 h21))) (Ji rfl rfl h58 rfl) ?_; refine QC ?_; refine Qb ?_
    exact Qa rfl (Xu ⟨(KG (by simp_all [KE])), rfl, trivial⟩) ⟨rfl, rfl, rfl, trivial⟩
   refine Xz ?_
   refine zc 56 ?_ ?_ <;> intro h49
   ·
    refine WG ?_; refine Qb ?_
    exact Qa rfl (Xu ⟨(KG (by simp_all [KE])), rfl, trivial⟩) ⟨rfl, rfl, rfl, trivial⟩
   refine QC ?_
   refine zc 59 ?_ ?_ <;> intro h21
   rotate_left
   ·
    refine XJ ?_; refine uP (JI h49) (Ji rfl rfl (m1 (n0 h21)) rfl) ?_; refine QO ?_; refine Qb ?_
    exact Qa rfl (Xu ⟨(KG (by simp_all [KE])), rfl, trivial⟩) ⟨rfl, rfl, rfl, trivial⟩
   refine QJ ?_
   refine zc 63 ?_ ?_ <;> intro h52
   ·
    refine QC ?_; refine uP (X7 (m0 (n1 h21))) (XI rfl rfl h52 rfl) ?_; refine uP (JI h49) (XI rfl rfl (m0 (n1 h21)) rfl) ?_
    refine QO ?_; refine Qb ?_
    exact Qa rfl (Xu ⟨(KG (by simp_all [KE])), rfl, trivial⟩) ⟨rfl, rfl, rfl, trivial⟩
   refine QC ?_; refine uP (X7 (m0 (n1 h21))) (Ji rfl rfl h52 rfl) ?_; refine uP (JI h49) (XI rfl rfl (m0 (n1 h21)) rfl) ?_; refine QO ?_
   refine Qb ?_
   exact Qa rfl (Xu ⟨(KG (by simp_all [KE])), rfl, trivial⟩) ⟨rfl, rfl, rfl, trivial⟩
  refine QJ ?_; refine uP (JI h25) (XI rfl rfl (m0 (n1 h19)) rfl) ?_; refine QO ?_
  refine zc 46 ?_ ?_ <;> intro h29
  ·
   refine Yd ?_; refine Qb ?_
   exact Qa rfl (Xu ⟨(KG (by simp_all [KE])), rfl, trivial⟩) ⟨rfl, rfl, rfl, trivial⟩
  refine QC ?_
  refine zc 49 ?_ ?_ <;> intro h20
  rotate_left
  ·
   refine QJ ?_; refine uP (JI h29) (Ji rfl rfl (m1 (n0 h20)) rfl) ?_; refine QA ?_
   refine zc 59 ?_ ?_ <;> intro h21
   rotate_left
   ·
    refine YJ ?_; refine Qb ?_
    exact Qa rfl (Xu ⟨(KG (by simp_all [KE])), rfl, trivial⟩) ⟨rfl, rfl, rfl, trivial⟩
   refine QJ ?_
   refine zc 63 ?_ ?_ <;> intro h42
   ·
    refine QC ?_; refine uP (X7 (m0 (n1 h21))) (XI rfl rfl h42 rfl) ?_; refine QC ?_; refine Qb ?_
    exact Qa rfl (Xu ⟨(KG (by simp_all [KE])), rfl, trivial⟩) ⟨rfl, rfl, rfl, trivial⟩
   refine QC ?_; refine uP (X7 (m0 (n1 h21))) (Ji rfl rfl h42 rfl) ?_; refine QC ?_; refine Qb ?_
   exact Qa rfl (Xu ⟨(KG (by simp_all [KE])), rfl, trivial⟩) ⟨rfl, rfl, rfl, trivial⟩
  refine QJ ?_; refine uP (JI h29) (XI rfl rfl (m0 (n1 h20)) rfl) ?_; refine QO ?_
  refine zc 56 ?_ ?_ <;> intro h33
  ·
   refine WG ?_; refine Qb ?_
   exact Qa rfl (Xu ⟨(KG (by simp_all [KE])), rfl, trivial⟩) ⟨rfl, rfl, rfl, trivial⟩
  refine QC ?_
  refine zc 59 ?_ ?_ <;> intro h21
  rotate_left
  ·
   refine XJ ?_; refine uP (JI h33) (Ji rfl rfl (m1 (n0 h21)) rfl) ?_; refine QO ?_; refine Qb ?_
   exact Qa rfl (Xu ⟨(KG (by simp_all [KE])), rfl, trivial⟩) ⟨rfl, rfl, rfl, trivial⟩
  refine QJ ?_
  refine zc 63 ?_ ?_ <;> intro h36
  ·
   refine QC ?_; refine uP (X7 (m0 (n1 h21))) (XI rfl rfl h36 rfl) ?_; refine uP (JI h33) (XI rfl rfl (m0 (n1 h21)) rfl) ?_; refine QO ?_
   refine Qb ?_
   exact Qa rfl (Xu ⟨(KG (by simp_all [KE])), rfl, trivial⟩) ⟨rfl, rfl, rfl, trivial⟩
  refine QC ?_; refine uP (X7 (m0 (n1 h21))) (Ji rfl rfl h36 rfl) ?_; refine uP (JI h33) (XI rfl rfl (m0 (n1 h21)) rfl) ?_; refine QO ?_
  refine Qb ?_
  exact Qa rfl (Xu ⟨(KG (by simp_all [KE])), rfl, trivial⟩) ⟨rfl, rfl, rfl, trivial⟩
 refine QaL (⟨[(7, bl (KE l)), (8, bl (Yg l))], [], 0⟩) ?_ ?_
 ·
  refine QA ?_
  refine zc 73 ?_ ?_ <;> intro h65
  ·
   refine YJ ?_; refine Qb ?_
   exact Qa rfl (Xu ⟨(KG (by simp_all [Yg])), rfl, trivial⟩) trivial
  refine QA ?_
  refine zc 78 ?_ ?_ <;> intro h72
  ·
   refine Je ?_; refine Qb ?_
   exact Qa rfl (Xu ⟨(KG (by simp_all [Yg])), rfl, trivial⟩) trivial
  refine Je ?_; refine Qb ?_
  exact Qa rfl (Xu ⟨(KG (by simp_all [Yg])), rfl, trivial⟩) trivial
 refine QJ ?_
 refine zc 85 ?_ ?_ <;> intro h62
 ·
  refine QO ?_; refine zP (Qc (Wy _ _) rfl rfl rfl) ?_; refine zS ?_; refine zQ ?_
  exact Q2 (by simp [Xq, *])
 refine QO ?_; refine zP (Qc (Wy _ _) rfl rfl rfl) ?_; refine zS ?_; refine zQ ?_
 exact Q2 (by simp [Xq, *])
theorem Qp6 (l : Qs) : FC Tryz.prog 104 [.agg (QF l)] (i64 (J7 l)) := by
 refine Qd [2] Tryz.func104 rfl rfl 22 Tryz.ntmps104 (Nat.le_of_ble_eq_true rfl) ?_
 intro E hN
 refine JU ?_; refine QaL (⟨[(1, .ptr 0 0), (3, i64 (Kb l.k))], [(0, .var 26 (QF l))], 1⟩) ?_ ?_
 ·
  refine YJ ?_
  refine zq ?_ ?_ <;> intro h5
  ·
   refine QO ?_; refine Qb ?_
   exact Qa rfl (Xu ⟨(QE (by simp_all [Kb])), rfl, trivial⟩) ⟨rfl, rfl, rfl, trivial⟩
  refine QA ?_
  refine zq ?_ ?_ <;> intro h6
  ·
   refine QO ?_; refine Qb ?_
   exact Qa rfl (Xu ⟨(QE (by simp_all [Kb])), rfl, trivial⟩) ⟨rfl, rfl, rfl, trivial⟩
  refine XM ?_
  exact Qa rfl (Xu ⟨(QE (by simp_all [Kb])), rfl, trivial⟩) ⟨rfl, rfl, rfl, trivial⟩
 refine XJ ?_
 refine zc 15 ?_ ?_ <;> intro h11
 ·
  refine QA ?_; refine zP (Qc (Wy _ _) rfl rfl rfl) ?_; refine zS ?_; refine zQ ?_
  exact Q2 (by simp only [List.length_map] at *; simp only [J7, *]; simp)
 refine QA ?_; refine zP (Qc (Wy _ _) rfl rfl rfl) ?_; refine zS ?_; refine zQ ?_
 exact Q2 (by simp only [List.length_map] at *; simp only [J7, *]; simp)
theorem Qpl (l : Qs) : FC Tryz.prog 106 [.agg (QF l)] (i64 (X9 l)) := by
 refine Qd [2] Tryz.func106 rfl rfl 29 Tryz.ntmps106 (Nat.le_of_ble_eq_true rfl) ?_
 intro E hN
 refine Wi ?_
 refine zc 8 ?_ ?_ <;> intro h7
 ·
  refine Qil ?_; refine zP (Qc (Wy _ _) rfl rfl rfl) ?_; refine zS ?_; refine zQ ?_
  exact Q2 (by simp only [X9, *]; simp)
 refine QA ?_
 refine zc 13 ?_ ?_ <;> intro h11
 ·
  refine WG ?_; refine zP (Qc (Wy _ _) rfl rfl rfl) ?_; refine zS ?_; refine zQ ?_
  exact Q2 (by simp only [X9, *]; simp)
 refine QA ?_
 refine zc 18 ?_ ?_ <;> intro h15
 ·
  refine JU ?_; refine zP (Qc (Wy _ _) rfl rfl rfl) ?_; refine zS ?_; refine zQ ?_
  exact Q2 (by simp only [X9, *]; simp)
 refine QA ?_
 refine zc 23 ?_ ?_ <;> intro h19
 ·
  refine QJ ?_; refine zP (Qc (Wy _ _) rfl rfl rfl) ?_; refine zS ?_; refine zQ ?_
  exact Q2 (by simp only [X9, *]; simp)
 refine QJ ?_; refine zP (Qc (Wy _ _) rfl rfl rfl) ?_; refine zS ?_; refine zQ ?_
 exact Q2 (by simp only [X9, *]; simp)
theorem Qpp (n : Nat) : ∀ l : Qs, SizeOf.sizeOf l < n → FC Tryz.prog 150 [.agg (QF l)] (bl (chainB l)) := by
 induction n with
 | zero => intro l h; omega
 | succ n ih =>
 intro l hl
 refine Qd [2] Tryz.func150 rfl rfl 29 Tryz.ntmps150 (Nat.le_of_ble_eq_true rfl) ?_
 intro E hN
 refine QlK ?_
 refine zq ?_ ?_ <;> intro h5
 ·
  refine QA ?_; refine zQ ?_
  exact Qt (QeG (by simp [*])).symm
 refine QA ?_
 refine zq ?_ ?_ <;> intro h6
 ·
  refine QA ?_; refine zQ ?_
  exact Qt (QeG (by simp [*])).symm
 refine QJ ?_
 refine zq ?_ ?_ <;> intro h7
 ·
  refine QC ?_; refine zQ ?_
  exact Qt (QeG (by simp [*])).symm
 refine QA ?_
 refine zq ?_ ?_ <;> intro h8
 rotate_left
 ·
  refine QJ ?_; refine zQ ?_
  exact Qt (YO (by assumption) (by assumption) (by assumption) (.inl (by assumption))).symm
 refine Xz ?_
 refine zc 15 ?_ ?_ <;> intro h12
 rotate_left
 ·
  refine WG ?_; refine zQ ?_
  exact Qt (by first | (rw [Qc0 (by assumption) hab]; simp [*]; done) | (rw [YO (by assumption) (by assumption) (by assumption) (.inr (by simp_all; omega))]))
 obtain ⟨a, b, hab⟩ : ∃ a b, l.ps = [a, b] := by
  match hp : l.ps with
  | [a, b] => exact ⟨a, b, rfl⟩
  | [] => simp_all
  | [_] => simp_all
  | _ :: _ :: _ :: _ => simp_all; omega
 have ha : l.ps[0]? = some a := by rw [hab]; rfl
 have hb : l.ps[1]? = some b := by rw [hab]; rfl
 refine QO ?_; refine uP (X7 h12) (Qh rfl rfl rfl 0 rfl _ (Xt ha) rfl) ?_; refine KO ?_
 refine uP (X7 h12) (Qc (ih a (by have := Qs.sizeOf_ps (List.mem_of_getElem? ha); omega)) rfl rfl rfl) ?_
 refine QO ?_
 refine zc 22 ?_ ?_ <;> intro h17
 ·
  refine QO ?_; refine uP (X7 h17) (Qh rfl rfl rfl 1 rfl _ (Xt hb) rfl) ?_; refine KO ?_
  refine uP (X7 h17) (Qc (ih b (by have := Qs.sizeOf_ps (List.mem_of_getElem? hb); omega)) rfl rfl rfl) ?_
  refine QO ?_; refine zQ ?_
  exact Qt (by first | (rw [Qc0 (by assumption) hab]; simp [*]; done) | (rw [YO (by assumption) (by assumption) (by assumption) (.inr (by simp_all; omega))]))
 refine Xz ?_; refine zQ ?_
 exact Qt (by first | (rw [Qc0 (by assumption) hab]; simp [*]; done) | (rw [YO (by assumption) (by assumption) (by assumption) (.inr (by simp_all; omega))]))
theorem Qqz (l : Qs) : FC Tryz.prog 150 [.agg (QF l)] (bl (chainB l)) := Qpp _ l (Nat.lt_succ_self _)
end Go.Proofs.YtaecccdkjmipeaaGreat
