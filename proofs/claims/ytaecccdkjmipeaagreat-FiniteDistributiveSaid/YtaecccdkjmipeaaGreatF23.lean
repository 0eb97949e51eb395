/-
  Contracts of the reference: numbers of elements (seat r5).
-/
import Derived.Test.YtaecccdkjmipeaaGreatF22
import Derived.Test.YtaecccdkjmipeaaGreatB27
import Derived.Test.YtaecccdkjmipeaaGreatF1
import Derived.Test.YtaecccdkjmipeaaGreatF8
namespace Go.Proofs.YtaecccdkjmipeaaGreat
set_option maxRecDepth 100000
set_option maxHeartbeats 1000000
open Go.RowKit
theorem QeL (a b : Nat) (ha : a ≤ 257) (hb : b ≤ 257) : FC Tryz.prog 95 [i64 (a : Nat), i64 (b : Nat)] (i64 (Qbv a b : Nat)) := by
 refine Qd [4] Tryz.func95 rfl rfl 20 Tryz.ntmps95 (Nat.le_of_ble_eq_true rfl) ?_
 intro E hN
 have hab := Nat.mul_le_mul ha hb
 have hw : IntKind.i64.wrap ((a : Int) * (b : Int)) = ((a * b : Nat) : Int) := by rw [← Int.natCast_mul, QmR (by omega) (by omega)]
 refine XN ?_
 refine zc 7 ?_ ?_ <;> intro h3
 ·
  have c1 : a > 256 := by have := of_decide_eq_true h3; omega
  refine WG ?_; refine zQ ?_
  exact Q2 (by rw [Qbv, if_pos (by omega)]; rfl)
 have c1 : ¬ a > 256 := by have := of_decide_eq_false h3; omega
 refine QJ ?_
 refine zc 11 ?_ ?_ <;> intro h4
 ·
  have c2 : b > 256 := by have := of_decide_eq_true h4; omega
  refine XN ?_; refine zQ ?_
  exact Q2 (by rw [Qbv, if_pos (by omega)]; rfl)
 have c2 : ¬ b > 256 := by have := of_decide_eq_false h4; omega
 refine Je ?_
 refine zq ?_ ?_ <;> intro h6
 ·
  have c3 : a * b > 256 := by have := of_decide_eq_true h6; rw [hw] at this; omega
  refine QC ?_; refine zQ ?_
  exact Q2 (by rw [Qbv, if_pos (by omega)]; rfl)
 have c3 : ¬ a * b > 256 := by have := of_decide_eq_false h6; rw [hw] at this; omega
 refine Xz ?_; refine zQ ?_
 exact Q2 (by rw [Qbv, if_neg (by omega), hw])
theorem Qrk (a b : Nat) : Qbv a b ≤ 257 := by unfold Qbv; split <;> omega
theorem QuC {k : Nat} (_h : k ≤ 257) : ∀ n, tI k n ≤ 257
 | 0 => by unfold tI; omega
 | n + 1 => Qrk _ _
theorem rng {l : Qs} (hc : Q0 l = 0) : l.lo ≤ l.hi ∧ -1000000000 ≤ l.lo ∧ l.lo ≤ 1000000000 ∧ -1000000000 ≤ l.hi ∧ l.hi ≤ 1000000000 := by
 have h := Qds (QP hc).four.2.2.1 (by decide)
 simp only [Bool.or_eq_false_iff, decide_eq_false_iff_not] at h
 omega
theorem Qsj {l : Qs} (hc : Q0 l = 0) : ∀ r ∈ l.rs, r.t ∈ l.nm ∧ r.i.length ≤ 1000 := fun r hr => by
 have h := (QP hc).four.2.1
 unfold Jw at h
 split at h
 ·rename_i h1
  simp only [Bool.and_eq_true, List.all_eq_true] at h1
  have := h1.2 r hr
  simp only [Wf, Bool.and_eq_true] at this
  refine ⟨Jb.1 this.2, ?_⟩
  have hs : r.i.Sublist (ofN l.nm) := K3 this.1.1.2 (Kj _) fun x hx => Kc.2 (Jf.1 this.1.2 x hx)
  have := hs.length_le
  have := Qoz l.nm
  have := Qja hc
  omega
 cases h
theorem Qw4 {l : Qs} (hc : Q0 l = 0) : l.rs.length ≤ 32 := by
 have h1 := Qds (QP hc).four.1 (by decide)
 simp only [Bool.or_eq_false_iff, decide_eq_false_iff_not] at h1
 omega
theorem QwK (lo hi : Int) (nm : List Nm) (ps : List Qs) (rs : List Ru) : FC Tryz.prog 58 [.agg (QF (.mk 1 lo hi nm ps rs))] (i64 (Jd (.mk 1 lo hi nm ps rs) : Nat)) := by
 refine Qd [2] Tryz.func58 rfl rfl 93 Tryz.ntmps58 (Nat.le_of_ble_eq_true rfl) ?_
 intro E hN
 refine Yd ?_; refine KO ?_; refine zQ ?_
 exact Q2 (by rw [QpN (l := (.mk 1 lo hi nm ps rs)) rfl]; rfl)
theorem QwN (lo hi : Int) (nm : List Nm) (ps : List Qs) (rs : List Ru) (hc : Q0 (.mk 2 lo hi nm ps rs) = 0) : FC Tryz.prog 58 [.agg (QF (.mk 2 lo hi nm ps rs))] (i64 (Jd (.mk 2 lo hi nm ps rs) : Nat)) := by
 refine Qd [2] Tryz.func58 rfl rfl 93 Tryz.ntmps58 (Nat.le_of_ble_eq_true rfl) ?_
 intro E hN
 obtain ⟨hr1, hr2, hr3, hr4, hr5⟩ := rng hc
 simp only [Qs.lo, Qs.hi] at hr1 hr2 hr3 hr4 hr5
 have hcY := Qi3 (l := (.mk 2 lo hi nm ps rs)) (.inl rfl)
 have hcN := Qiz (l := (.mk 2 lo hi nm ps rs)) (.inl rfl)
 simp only [Qs.lo, Qs.hi] at hcY hcN
 refine Yd ?_; refine WG ?_
 refine zP (WJ rfl rfl rfl (by simp only [Qs.lo, Qs.hi]; omega)) ?_
 refine QO ?_
 refine zq ?_ ?_ <;> intro h12
 ·
  have h7 : hi - lo ≥ 256 := of_decide_eq_true h12
  refine QC ?_; refine zQ ?_
  exact Q2 (by rw [hcY h7]; rfl)
 have h7 : ¬ hi - lo ≥ 256 := of_decide_eq_false h12
 refine Xz ?_
 refine zP (WJ rfl rfl rfl (by simp only [Qs.lo, Qs.hi]; omega)) ?_
 refine zP (Qa4 rfl rfl rfl (by simp only [Qs.lo, Qs.hi]; omega)) ?_
 refine zS ?_; refine zQ ?_
 exact Q2 (hcN h7 hr1).symm
theorem Qw1 (lo hi : Int) (nm : List Nm) (ps : List Qs) (rs : List Ru) (hc : Q0 (.mk 3 lo hi nm ps rs) = 0) : FC Tryz.prog 58 [.agg (QF (.mk 3 lo hi nm ps rs))] (i64 (Jd (.mk 3 lo hi nm ps rs) : Nat)) := by
 refine Qd [2] Tryz.func58 rfl rfl 93 Tryz.ntmps58 (Nat.le_of_ble_eq_true rfl) ?_
 intro E hN
 obtain ⟨hr1, hr2, hr3, hr4, hr5⟩ := rng hc
 simp only [Qs.lo, Qs.hi] at hr1 hr2 hr3 hr4 hr5
 have hcY := Qi3 (l := (.mk 3 lo hi nm ps rs)) (.inr rfl)
 have hcN := Qiz (l := (.mk 3 lo hi nm ps rs)) (.inr rfl)
 simp only [Qs.lo, Qs.hi] at hcY hcN
 refine Yd ?_; refine Qe3 ?_
 refine zP (WJ rfl rfl rfl (by simp only [Qs.lo, Qs.hi]; omega)) ?_
 refine QO ?_
 refine zq ?_ ?_ <;> intro h13
 ·
  have h7 : hi - lo ≥ 256 := of_decide_eq_true h13
  refine QC ?_; refine zQ ?_
  exact Q2 (by rw [hcY h7]; rfl)
 have h7 : ¬ hi - lo ≥ 256 := of_decide_eq_false h13
 refine Xz ?_
 refine zP (WJ rfl rfl rfl (by simp only [Qs.lo, Qs.hi]; omega)) ?_
 refine zP (Qa4 rfl rfl rfl (by simp only [Qs.lo, Qs.hi]; omega)) ?_
 refine zS ?_; refine zQ ?_
 exact Q2 (hcN h7 hr1).symm
theorem Qw2 (lo hi : Int) (nm : List Nm) (ps : List Qs) (rs : List Ru) (hc : Q0 (.mk 8 lo hi nm ps rs) = 0) : FC Tryz.prog 58 [.agg (QF (.mk 8 lo hi nm ps rs))] (i64 (Jd (.mk 8 lo hi nm ps rs) : Nat)) := by
 refine Qd [2] Tryz.func58 rfl rfl 93 Tryz.ntmps58 (Nat.le_of_ble_eq_true rfl) ?_
 intro E hN
 have hn32 : nm.length ≤ 32 := Qja hc
 refine Yd ?_; refine QjA ?_
 refine zP (Qa4 rfl rfl rfl (by simp only [List.length_map]; have : (Qs.mk 8 lo hi nm ps rs).nm.length ≤ 32 := hn32; omega)) ?_
 refine zS ?_; refine zQ ?_
 exact Q2 (by rw [Qps (l := (.mk 8 lo hi nm ps rs)) rfl]; simp [Qs.nm])
theorem QvA (lo hi : Int) (nm : List Nm) (ps : List Qs) (rs : List Ru) (hc : Q0 (.mk 10 lo hi nm ps rs) = 0) : FC Tryz.prog 58 [.agg (QF (.mk 10 lo hi nm ps rs))] (i64 (Jd (.mk 10 lo hi nm ps rs) : Nat)) := by
 refine Qd [2] Tryz.func58 rfl rfl 93 Tryz.ntmps58 (Nat.le_of_ble_eq_true rfl) ?_
 intro E hN
 have hn32 : nm.length ≤ 32 := Qja hc
 have hrs : rs.length ≤ 32 := Qw4 hc
 have hsn : Qo nm = true := (Wp (QP hc)).2.resolve_left (fun h : (10 : Int) = 6 => by cases h)
 have hrl : ∀ r ∈ rs, r.t ∈ nm ∧ r.i.length ≤ 1000 := Qsj hc
 refine Yd ?_; refine Yd ?_; refine QJ ?_
 refine zP (Qc (Qk6 nm rs hsn (fun r h => (hrl r h).1) (fun r h => (hrl r h).2) (by omega) hn32) rfl rfl rfl) ?_; refine zE ?_
 refine zP (Qwo rfl rfl rfl) ?_; refine zS ?_; refine zQ ?_
 exact Q2 (by rw [QlT (l := (.mk 10 lo hi nm ps rs)) rfl hsn (fun r h => (hrl r h).1)]; simp only [List.length_map, Qs.nm, Qs.rs]; split <;> omega)
theorem QwT (lo hi : Int) (nm : List Nm) (ps : List Qs) (rs : List Ru) (hc : Q0 (.mk 4 lo hi nm ps rs) = 0) (hF : J3 (.mk 4 lo hi nm ps rs) = true) : FC Tryz.prog 58 [.agg (QF (.mk 4 lo hi nm ps rs))] (i64 (Jd (.mk 4 lo hi nm ps rs) : Nat)) := by
 refine Qd [2] Tryz.func58 rfl rfl 93 Tryz.ntmps58 (Nat.le_of_ble_eq_true rfl) ?_
 intro E hN
 have hn32 : nm.length ≤ 32 := Qja hc
 refine Yd ?_; refine Yd ?_; refine JU ?_
 refine Qi (fun x : {i : Nat // i ≤ nm.length ∧ True} => ⟨[(1, .ptr 0 0), (3, i64 (tI 2 x.1 : Nat)), (4, i64 (x.1 : Nat))], [(0, .var 26 (QF (.mk 4 lo hi nm ps rs)))], 1⟩) (fun x => nm.length - x.1) (⟨0, Nat.zero_le _, by trivial⟩) ?_ ?_
 ·
  exact Qa rfl (Xl trivial) ⟨rfl, rfl, rfl, trivial⟩
 rintro ⟨i, hi, gi⟩
 dsimp only
 refine JU ?_
 refine zq ?_ ?_ <;> intro h17
 ·
  have lti : i < nm.length := by simpa [Qs.nm] using h17
  refine QA ?_; refine zP (Qc (QeL (tI 2 i) 2 (QuC (by decide) i) (by decide)) rfl rfl rfl) ?_; refine Je ?_; refine Qb ?_
  exact ⟨⟨i + 1, lti, trivial⟩, Qa rfl (Jg ⟨(QE (by dsimp only; omega)), rfl, trivial⟩) ⟨rfl, rfl, rfl, trivial⟩, by dsimp only; omega⟩
 have gei : nm.length ≤ i := by simpa [Qs.nm] using h17
 obtain rfl : nm.length = i := by omega
 refine QA ?_; refine zQ ?_
 exact Q2 (by rw [Qsr hc hF rfl]; rfl)
theorem QwH (lo hi : Int) (nm : List Nm) (q : Qs) (rs : List Ru) (hc : Q0 (.mk 5 lo hi nm [q] rs) = 0) (hF : J3 (.mk 5 lo hi nm [q] rs) = true) (ih : FC Tryz.prog 58 [.agg (QF q)] (i64 (Jd q : Nat))) : FC Tryz.prog 58 [.agg (QF (.mk 5 lo hi nm [q] rs))] (i64 (Jd (.mk 5 lo hi nm [q] rs) : Nat)) := by
 refine Qd [2] Tryz.func58 rfl rfl 93 Tryz.ntmps58 (Nat.le_of_ble_eq_true rfl) ?_
 intro E hN
 have hn32 : nm.length ≤ 32 := Qja hc
 have hqm : q ∈ (Qs.mk 5 lo hi nm [q] rs).ps := List.mem_singleton_self q
 obtain ⟨hq1, hq2⟩ := Qaf (XR hc hqm) (Jy hF q hqm)
 refine Yd ?_; refine Yd ?_; refine WG ?_; refine zP (Qh rfl rfl rfl 0 rfl _ (Xt (show [q][0]? = some q from rfl)) rfl) ?_; refine zL ?_
 refine zP (Qc ih rfl rfl rfl) ?_; refine Xz ?_
 refine Qi (fun x : {i : Nat // i ≤ nm.length ∧ True} => ⟨[(1, .ptr 0 0), (3, i64 (tI (Jd q) x.1 : Nat)), (5, i64 (Jd q : Nat)), (6, i64 (x.1 : Nat))], [(0, .var 26 (QF (.mk 5 lo hi nm [q] rs)))], 1⟩) (fun x => nm.length - x.1) (⟨0, Nat.zero_le _, by trivial⟩) ?_ ?_
 ·
  exact Qa rfl (QR trivial) ⟨rfl, rfl, rfl, trivial⟩
 rintro ⟨i, hi, gi⟩
 dsimp only
 refine JU ?_
 refine zq ?_ ?_ <;> intro h24
 ·
  have lti : i < nm.length := by simpa [Qs.nm] using h24
  refine Je ?_; refine zP (Qc (QeL (tI (Jd q) i) (Jd q) (QuC hq2 i) hq2) rfl rfl rfl) ?_; refine Je ?_; refine Qb ?_
  exact ⟨⟨i + 1, lti, trivial⟩, Qa rfl (Xl ⟨(QE (by dsimp only; omega)), rfl, trivial⟩) ⟨rfl, rfl, rfl, trivial⟩, by dsimp only; omega⟩
 have gei : nm.length ≤ i := by simpa [Qs.nm] using h24
 obtain rfl : nm.length = i := by omega
 refine QA ?_; refine zQ ?_
 exact Q2 (by rw [QqT hc hF rfl rfl]; rfl)
theorem Qwl (lo hi : Int) (nm : List Nm) (ps : List Qs) (rs : List Ru) (hc : Q0 (.mk 6 lo hi nm ps rs) = 0) (hF : J3 (.mk 6 lo hi nm ps rs) = true) (ih : ∀ q ∈ ps, FC Tryz.prog 58 [.agg (QF q)] (i64 (Jd q : Nat))) : FC Tryz.prog 58 [.agg (QF (.mk 6 lo hi nm ps rs))] (i64 (Jd (.mk 6 lo hi nm ps rs) : Nat)) := by
 refine Qd [2] Tryz.func58 rfl rfl 93 Tryz.ntmps58 (Nat.le_of_ble_eq_true rfl) ?_
 intro E hN
 have hp64 : ps.length ≤ 64 := (QP hc).small
 have hps : (Qs.mk 6 lo hi nm ps rs).ps = ps := rfl
 have hcp : Jd (Qs.mk 6 lo hi nm ps rs) = WA (Y9 ps) := QiA hc hF (.inl rfl)
 have hge1 : ∀ i, 1 ≤ Y9 (ps.take i) := fun i => Qhu hc hF (i := i)
 have hmo : ∀ i, Y9 (ps.take i) ≤ Y9 ps := fun i => Qei hc hF (i := i)
 refine Yd ?_; refine Yd ?_; refine Yd ?_
 refine Qi (fun x : {k : Nat // k ≤ (ps).length ∧ True} => ⟨[(1, .ptr 0 0), (3, i64 (WA (Y9 (ps.take x.1)) : Nat)), (7, i64 (x.1 : Nat))], [(0, .var 26 (QF (.mk 6 lo hi nm ps rs)))], 1⟩) (fun x => (ps).length - x.1) (⟨0, Nat.zero_le _, by simp⟩) ?_ ?_
 ·
  exact Qa rfl (Xl trivial) ⟨rfl, rfl, rfl, trivial⟩
 rintro ⟨k, hk, hg⟩
 dsimp only
 refine JU ?_
 refine zc 78 ?_ ?_ <;> intro h19
 rotate_left
 ·
  have hge : ps.length ≤ k := by simpa [Qs.ps] using h19
  have hfin : WA (Y9 (ps.take k)) = Jd (Qs.mk 6 lo hi nm ps rs) := by rw [List.take_of_length_le hge, hcp]
  refine XN ?_; refine zQ ?_
  exact Q2 (by rw [hfin])
 have hlt : k < ps.length := by simpa [Qs.ps] using h19
 obtain ⟨x, hx⟩ := Qk hlt
 have hxm : x ∈ (Qs.mk 6 lo hi nm ps rs).ps := List.mem_of_getElem? hx
 refine QJ ?_
 refine zq ?_ ?_ <;> intro h20
 ·
  skip
  refine XJ ?_; refine zP (Qh rfl rfl rfl k rfl _ (Xt hx) rfl) ?_; refine zL ?_; refine zP (Qc (ih x hxm) rfl rfl rfl) ?_
  refine zP (Qc (QeL (WA (Y9 (ps.take k))) (Jd x) (Qoy _) (Qaf (XR hc hxm) (Jy hF x hxm)).2) rfl rfl rfl) ?_
  refine Je ?_; refine Qb ?_
  exact ⟨⟨k + 1, hlt, trivial⟩, Qa rfl (Xu ⟨(QE (by rw [W0 hx, ← Qfg (hge1 k) (Qaf (XR hc hxm) (Jy hF x hxm)).1, Qko (Qaf (XR hc hxm) (Jy hF x hxm)).2])), rfl, (QE (by dsimp only; omega)), rfl, trivial⟩) ⟨rfl, rfl, rfl, trivial⟩, by dsimp only; omega⟩
 have hfin : WA (Y9 (ps.take k)) = Jd (Qs.mk 6 lo hi nm ps rs) := by
  have h1 := of_decide_eq_false h20
  have h2 := hmo k
  rw [hcp]
  unfold WA at h1 ⊢
  split at h1
  ·omega
  rw [if_neg (by assumption), if_neg (by omega)]
 refine QA ?_; refine zQ ?_
 exact Q2 (by rw [hfin])
theorem QwE (lo hi : Int) (nm : List Nm) (ps : List Qs) (rs : List Ru) (hc : Q0 (.mk 7 lo hi nm ps rs) = 0) (hF : J3 (.mk 7 lo hi nm ps rs) = true) (ih : ∀ q ∈ ps, FC Tryz.prog 58 [.agg (QF q)] (i64 (Jd q : Nat))) : FC Tryz.prog 58 [.agg (QF (.mk 7 lo hi nm ps rs))] (i64 (Jd (.mk 7 lo hi nm ps rs) : Nat)) := by
 refine Qd [2] Tryz.func58 rfl rfl 93 Tryz.ntmps58 (Nat.le_of_ble_eq_true rfl) ?_
 intro E hN
 have hp64 : ps.length ≤ 64 := (QP hc).small
 have hps : (Qs.mk 7 lo hi nm ps rs).ps = ps := rfl
 have hcp : Jd (Qs.mk 7 lo hi nm ps rs) = WA (Y9 ps) := QiA hc hF (.inr rfl)
 have hge1 : ∀ i, 1 ≤ Y9 (ps.take i) := fun i => Qhu hc hF (i := i)
 have hmo : ∀ i, Y9 (ps.take i) ≤ Y9 ps := fun i => Qei hc hF (i := i)
 refine Yd ?_; refine Yd ?_; refine Yd ?_; refine QC ?_
 refine Qi (fun x : {k : Nat // k ≤ (ps).length ∧ True} => ⟨[(1, .ptr 0 0), (3, i64 (WA (Y9 (ps.take x.1)) : Nat)), (7, i64 (x.1 : Nat))], [(0, .var 26 (QF (.mk 7 lo hi nm ps rs)))], 1⟩) (fun x => (ps).length - x.1) (⟨0, Nat.zero_le _, by simp⟩) ?_ ?_
 ·
  exact Qa rfl (Xl trivial) ⟨rfl, rfl, rfl, trivial⟩
 rintro ⟨k, hk, hg⟩
 dsimp only
 refine JU ?_
 refine zc 78 ?_ ?_ <;> intro h20
 rotate_left
 ·
  have hge : ps.length ≤ k := by simpa [Qs.ps] using h20
  have hfin : WA (Y9 (ps.take k)) = Jd (Qs.mk 7 lo hi nm ps rs) := by rw [List.take_of_length_le hge, hcp]
  refine XN ?_; refine zQ ?_
  exact Q2 (by rw [hfin])
 have hlt : k < ps.length := by simpa [Qs.ps] using h20
 obtain ⟨x, hx⟩ := Qk hlt
 have hxm : x ∈ (Qs.mk 7 lo hi nm ps rs).ps := List.mem_of_getElem? hx
 refine QJ ?_
 refine zq ?_ ?_ <;> intro h21
 ·
  skip
  refine XJ ?_; refine zP (Qh rfl rfl rfl k rfl _ (Xt hx) rfl) ?_; refine zL ?_; refine zP (Qc (ih x hxm) rfl rfl rfl) ?_
  refine zP (Qc (QeL (WA (Y9 (ps.take k))) (Jd x) (Qoy _) (Qaf (XR hc hxm) (Jy hF x hxm)).2) rfl rfl rfl) ?_
  refine Je ?_; refine Qb ?_
  exact ⟨⟨k + 1, hlt, trivial⟩, Qa rfl (Xu ⟨(QE (by rw [W0 hx, ← Qfg (hge1 k) (Qaf (XR hc hxm) (Jy hF x hxm)).1, Qko (Qaf (XR hc hxm) (Jy hF x hxm)).2])), rfl, (QE (by dsimp only; omega)), rfl, trivial⟩) ⟨rfl, rfl, rfl, trivial⟩, by dsimp only; omega⟩
 have hfin : WA (Y9 (ps.take k)) = Jd (Qs.mk 7 lo hi nm ps rs) := by
  have h1 := of_decide_eq_false h21
  have h2 := hmo k
  rw [hcp]
  unfold WA at h1 ⊢
  split at h1
  ·omega
  rw [if_neg (by assumption), if_neg (by omega)]
 refine QA ?_; refine zQ ?_
 exact Q2 (by rw [hfin])
theorem Qqx (l : Qs) (hc : Q0 l = 0) (hF : J3 l = true) (ih : ∀ q ∈ l.ps, FC Tryz.prog 58 [.agg (QF q)] (i64 (Jd q : Nat))) : FC Tryz.prog 58 [.agg (QF l)] (i64 (Jd l : Nat)) := by
 have hk := Qbi (QP hc)
 have h5 := fun hk => YP (QP hc) hk
 cases l with
 | mk k lo hi nm ps rs =>
 simp only [Qs.k, Qs.ps] at hk h5 ih
 rcases hk with rfl | rfl | rfl | rfl | rfl | rfl | rfl | rfl | rfl | rfl
 ·exact QwK lo hi nm ps rs
 ·exact QwN lo hi nm ps rs hc
 ·exact Qw1 lo hi nm ps rs hc
 ·exact QwT lo hi nm ps rs hc hF
 ·obtain ⟨q, rfl⟩ := h5 rfl
  exact QwH lo hi nm q rs hc hF (ih q (by simp))
 ·exact Qwl lo hi nm ps rs hc hF ih
 ·exact QwE lo hi nm ps rs hc hF ih
 ·exact Qw2 lo hi nm ps rs hc
 ·rw [Jv] at hF; simp [Qs.k] at hF
 exact QvA lo hi nm ps rs hc
theorem Qfk (l : Qs) (hc : Q0 l = 0) (hF : J3 l = true) : FC Tryz.prog 58 [.agg (QF l)] (i64 (Jd l : Nat)) := Qqx l hc hF fun q hq => Qfk q (XR hc hq) (Jy hF q hq)
termination_by l
decreasing_by exact Qs.sizeOf_ps hq
theorem Qq2 (l : Qs) (hc : ¬ Q0 l = 0) : FC Tryz.prog 22 [.agg (QF l)] (.tup [i64 (cnt l : Nat), i64 (Qai l)]) := by
 refine Qd [2, 3] Tryz.func22 rfl rfl 16 Tryz.ntmps22 (Nat.le_of_ble_eq_true rfl) ?_
 intro E hN
 obtain ⟨e1, e2⟩ := Qlo hc
 rw [e1, e2]
 refine XN ?_; refine zP (Qc (Qcr l) rfl rfl rfl) ?_; refine zP (Xc (b := true) rfl rfl rfl (by simpa using hc)) ?_; refine Je ?_
 refine zQ ?_
 rfl
theorem Qr7 (l : Qs) (hc : Q0 l = 0) (hF : J3 l = false) : FC Tryz.prog 22 [.agg (QF l)] (.tup [i64 (cnt l : Nat), i64 (Qai l)]) := by
 refine Qd [2, 3] Tryz.func22 rfl rfl 16 Tryz.ntmps22 (Nat.le_of_ble_eq_true rfl) ?_
 intro E hN
 obtain ⟨e1, e2⟩ := Qld hc hF
 rw [e1, e2]
 refine XN ?_
 refine zP (Qc (by have h := Qcr l; rw [hc] at h; exact h) rfl rfl rfl) ?_
 refine XJ ?_; refine zP (Qc (fcb (c := false) (QgG l (QP hc)) hF) rfl rfl rfl) ?_; refine Xz ?_; refine zQ ?_
 rfl
theorem QsE (l : Qs) (hc : Q0 l = 0) (hF : J3 l = true) (L : List Qn) (ha : Yz l = some L) : FC Tryz.prog 22 [.agg (QF l)] (.tup [i64 (cnt l : Nat), i64 (Qai l)]) := by
 refine Qd [2, 3] Tryz.func22 rfl rfl 16 Tryz.ntmps22 (Nat.le_of_ble_eq_true rfl) ?_
 intro E hN
 have hr : Jd l = L.length := by unfold Jd; rw [ha]
 have h256 := QdK (QP hc) ha
 have e12 : cnt l = L.length ∧ Qai l = 0 := by
  rcases Qae hc hF with ⟨M, h1, h2, h3⟩ | ⟨h1, _, _⟩
  ·rw [ha] at h1; cases h1; exact ⟨h2, h3⟩
  rw [ha] at h1; cases h1
 obtain ⟨e1, e2⟩ := e12
 rw [e1, e2]
 refine XN ?_
 refine zP (Qc (by have h := Qcr l; rw [hc] at h; exact h) rfl rfl rfl) ?_
 refine XJ ?_; refine zP (Qc (fcb (c := true) (QgG l (QP hc)) hF) rfl rfl rfl) ?_; refine XJ ?_
 refine zP (Qc (by have h := Qfk l hc hF; rw [hr] at h; exact h) rfl rfl rfl) ?_
 refine QA ?_
 refine zP (Xc (b := true) rfl rfl rfl (by simp; omega)) ?_
 refine Xz ?_; refine zQ ?_
 rfl
theorem QqI (l : Qs) (hc : Q0 l = 0) (hF : J3 l = true) (ha : Yz l = none) : FC Tryz.prog 22 [.agg (QF l)] (.tup [i64 (cnt l : Nat), i64 (Qai l)]) := by
 refine Qd [2, 3] Tryz.func22 rfl rfl 16 Tryz.ntmps22 (Nat.le_of_ble_eq_true rfl) ?_
 intro E hN
 have hr : Jd l = 257 := by unfold Jd; rw [ha]
 have e12 : cnt l = 0 ∧ Qai l = 6 := by
  rcases Qae hc hF with ⟨M, h1, _, _⟩ | ⟨_, h2, h3⟩
  ·rw [ha] at h1; cases h1
  exact ⟨h2, h3⟩
 obtain ⟨e1, e2⟩ := e12
 rw [e1, e2]
 refine XN ?_
 refine zP (Qc (by have h := Qcr l; rw [hc] at h; exact h) rfl rfl rfl) ?_
 refine XJ ?_; refine zP (Qc (fcb (c := true) (QgG l (QP hc)) hF) rfl rfl rfl) ?_; refine XJ ?_
 refine zP (Qc (by have h := Qfk l hc hF; rw [hr] at h; exact h) rfl rfl rfl) ?_
 refine Wi ?_; refine zQ ?_
 rfl
theorem QdD (l : Qs) : FC Tryz.prog 22 [.agg (QF l)] (.tup [i64 (cnt l : Nat), i64 (Qai l)]) := by
 by_cases hc : Q0 l = 0
 ·cases hF : J3 l with
  | false => exact Qr7 l hc hF
  | true =>
   cases ha : Yz l with
   | none => exact QqI l hc hF ha
   | some L => exact QsE l hc hF L ha
 exact Qq2 l hc
mutual
def Qgm : Qs → Bool
 | .mk k _ _ _ ps _ => !(k == 8 || k == 10) && Qku ps
def Qku : List Qs → Bool
 | [] => true
 | p :: r => Qgm p && Qku r
end
theorem QgR : ∀ l : List Qs, Qku l = l.all Qgm
 | [] => rfl
 | p :: r => by rw [Qku, QgR r]; rfl
theorem Qe9 (l : Qs) : Qgm l = (!(l.k == 8 || l.k == 10) && l.ps.all Qgm) := by
 cases l with
 | mk k lo hi nm ps rs => rw [Qgm, QgR]; rfl
theorem QvZ (l : Qs) (ih : ∀ q ∈ l.ps, FC Tryz.prog 38 [.agg (QF q)] (bl (Qgm q))) (h6 : l.ps.length ≤ 1000000) : FC Tryz.prog 38 [.agg (QF l)] (bl (Qgm l)) := by
 refine Qd [2] Tryz.func38 rfl rfl 26 Tryz.ntmps38 (Nat.le_of_ble_eq_true rfl) ?_
 intro E hN
 refine JA ?_
 refine zc 7 ?_ ?_ <;> intro h5
 ·
  refine JU ?_; refine zQ ?_
  exact Qt (by rw [Qe9]; simp_all)
 refine QA ?_
 refine zq ?_ ?_ <;> intro h8
 ·
  have h1 := h8
  refine QC ?_; refine zQ ?_
  exact Qt (by rw [Qe9]; simp_all)
 have h1 := h8
 refine Xz ?_
 refine Qi (fun x : {k : Nat // k ≤ (l.ps).length ∧ (l.ps.drop k).all Qgm = l.ps.all Qgm} => ⟨[(1, .ptr 0 0), (3, i64 (x.1 : Nat))], [(0, .var 26 (QF l))], 1⟩) (fun x => (l.ps).length - x.1) (⟨0, Nat.zero_le _, by simp⟩) ?_ ?_
 ·
  exact Qa rfl (Jg trivial) ⟨rfl, rfl, rfl, trivial⟩
 rintro ⟨k, hk, hg⟩
 dsimp only
 refine JU ?_
 refine zq ?_ ?_ <;> intro h14
 rotate_left
 ·
  have hge : (l.ps).length ≤ k := by simpa using h14
  refine QJ ?_; refine zQ ?_
  exact Qt (by rw [Qe9, X4 hg hge]; simp_all)
 have hlt : k < (l.ps).length := by simpa using h14
 obtain ⟨x, hx⟩ := Qk hlt
 refine XJ ?_; refine zP (Qh rfl rfl rfl k rfl _ (Xt hx) rfl) ?_; refine zL ?_
 refine zP (Qc (ih x (List.mem_of_getElem? hx)) rfl rfl rfl) ?_; refine QO ?_
 refine zq ?_ ?_ <;> intro h19
 ·
  refine QC ?_; refine zQ ?_
  exact Qt (by rw [Qe9, Q6 hg hx (by simp_all), Bool.and_false])
 refine QA ?_; refine Qb ?_
 exact ⟨⟨k + 1, hlt, XF hg hx (by simp_all)⟩, Qa rfl (Xu ⟨(QE (by dsimp only; omega)), rfl, trivial⟩) ⟨rfl, rfl, rfl, trivial⟩, by dsimp only; omega⟩
theorem Qe6 (l : Qs) (hO : Kv l) : FC Tryz.prog 38 [.agg (QF l)] (bl (Qgm l)) := QvZ l (fun q hq => Qe6 q (hO.part q hq)) (by have := hO.small; omega)
termination_by l
decreasing_by exact Qs.sizeOf_ps hq
theorem Qbz (l : Qs) : Qgm l = Qal l := by
 rw [Qe9, QeS]
 have h : l.ps.all Qgm = !(l.ps.any fun p => !Qal p) := by
  rw [List.not_any_eq_all_not]
  simp only [Bool.not_not]
  rw [Bool.eq_iff_iff, List.all_eq_true, List.all_eq_true]
  exact ⟨fun h q hq => by rw [← Qbz q]; exact h q hq, fun h q hq => by rw [Qbz q]; exact h q hq⟩
 rw [h]
 have e8 : (l.k != 8) = !(l.k == 8) := rfl
 have e10 : (l.k != 10) = !(l.k == 10) := rfl
 rw [e8, e10]
 cases (l.k == 8) <;> cases (l.k == 10) <;> rfl
termination_by l
decreasing_by all_goals exact Qs.sizeOf_ps hq
theorem QhS (l : Qs) (h : J3 l = true) : QaR l = false := by
 have h2 := Jy h
 rw [Jv] at h
 rw [QcZ, Bool.or_eq_false_iff]
 constructor
 ·simp only [Bool.and_eq_true, bne_iff_ne, ne_eq] at h
  simpa using h.1.1
 rw [List.any_eq_false]
 intro q hq
 rw [QhS q (h2 q hq)]; simp
termination_by l
decreasing_by exact Qs.sizeOf_ps hq
theorem Qks (v : Qn) (l : Qs) (hc : Q0 l = 0) (hF : J3 l = true) (h : Qr v l = true) : SmV 64 v := by
 have hO := QP hc
 have h32 := Qja hc
 have hps := hO.small
 rcases Qbi hO with hk | hk | hk | hk | hk | hk | hk | hk | hk | hk
 iterate 3
  obtain ⟨h1, h2, h3⟩ := Qno h (by omega)
  exact .mk v (by rw [h1]; simp) (by rw [h2]; simp) (by rw [h3]; simp) (by rw [h3]; simp) (by rw [h2]; simp)
 ·obtain ⟨-, h2, h3, h4, h5, -⟩ := Yq h (.inl hk)
  have hs := (KV (Qd8 hF (.inl hk)) (Wp hO).1 ((Wp hO).2.resolve_left (by omega))).1 ⟨h4, h5⟩
  have := hs.length_le
  exact .mk v (by omega) (by rw [h2]; simp) (by rw [h3]; simp) (by rw [h3]; simp) (by rw [h2]; simp)
 ·obtain ⟨q, hq⟩ := YP hO hk
  obtain ⟨-, h2, h3, h4, h5, h6⟩ := J6 h hk hq
  have hs := (KV (Qd8 hF (.inr (.inr hk))) (Wp hO).1 ((Wp hO).2.resolve_left (by omega))).1 ⟨h4, h5⟩
  have := hs.length_le
  have hqm : q ∈ l.ps := by rw [hq]; simp
  exact .mk v (by omega) (by omega) (by rw [h2]; simp) (by rw [h2]; simp) (fun p hp => Qks p q (XR hc hqm) (Jy hF q hqm) (h6 p hp).1)
 iterate 2
  obtain ⟨-, h2, h3, h4, h5⟩ := JJ h (by omega)
  refine .mk v (by rw [h2]; simp) (by omega) (by rw [h3]; simp) (by rw [h3]; simp) (fun p hp => ?_)
  obtain ⟨k, hkp⟩ := List.getElem?_of_mem hp
  obtain ⟨q, hkq⟩ := Qk (show k < l.ps.length by rw [← h4]; exact (List.getElem?_eq_some_iff.1 hkp).1)
  exact Qks p q (XR hc (List.mem_of_getElem? hkq)) (Jy hF q (List.mem_of_getElem? hkq)) ((Wt h4).1 h5 k p q hkp hkq)
 ·rcases Qdw h hk with ⟨-, h2⟩ | ⟨-, s, rfl, -⟩
  ·rw [h2]; exact .mk _ (by simp [Qn.nm]) (by simp [Qn.ps]) (by simp [Qn.es]) (by simp [Qn.es]) (by simp [Qn.ps])
  exact .mk _ (by simp [Qn.nm]) (by simp [Qn.ps]) (by simp [Qn.es]) (by simp [Qn.es]) (by simp [Qn.ps])
 ·rw [Jv, hk] at hF; simp at hF
 obtain ⟨-, h2, h3, h4, h5, -⟩ := Yq h (.inr hk)
 have hs := (KV (Qje hO hk) (Wp hO).1 ((Wp hO).2.resolve_left (by omega))).1 ⟨h4, h5⟩
 have := hs.length_le
 exact .mk v (by omega) (by rw [h2]; simp) (by rw [h3]; simp) (by rw [h3]; simp) (by rw [h2]; simp)
termination_by l
decreasing_by all_goals first | exact Qs.sizeOf_ps hqm | exact Qs.sizeOf_ps (List.mem_of_getElem? hkq)
structure Qhp (l : Qs) (L : List Qn) : Prop where
 ck : Q0 l = 0
 fin : J3 l = true
 mem : ∀ v, v ∈ L ↔ Qr v l = true
 lt : L.Pairwise fun x y => Jk x y < 0
 le : L.length ≤ 256
theorem QrI {l : Qs} (hc : Q0 l = 0) (hF : J3 l = true) {L : List Qn} (ha : Yz l = some L) : Qhp l (Qkk L) where
 ck := hc
 fin := hF
 mem := fun v => ((QbT L).mem_iff).trans ((QbM l (QP hc) hF L ha).2 v)
 lt := Qtb (QbM l (QP hc) hF L ha).1
 le := by rw [(QbT L).length_eq]; exact QdK (QP hc) ha
def jIx (l : Qs) (L : List Qn) (i j : Nat) : Nat := L.findIdx fun x => eqV x (QK l (L.getD i Qn.zero) (L.getD j Qn.zero))
namespace Qhp
variable {l : Qs} {L : List Qn} (E : Qhp l L)
include E
theorem inj {i j : Nat} {a : Qn} (hi : L[i]? = some a) (hj : L[j]? = some a) : i = j := by
 obtain ⟨hi', e1⟩ := List.getElem?_eq_some_iff.1 hi
 obtain ⟨hj', e2⟩ := List.getElem?_eq_some_iff.1 hj
 rcases Nat.lt_trichotomy i j with h | h | h
 ·have := List.pairwise_iff_getElem.1 E.lt i j hi' hj' h
  rw [e1, e2, JN.refl] at this; omega
 ·exact h
 have := List.pairwise_iff_getElem.1 E.lt j i hj' hi' h
 rw [e1, e2, JN.refl] at this; omega
theorem el {i : Nat} {a : Qn} (hi : L[i]? = some a) : Qr a l = true := (E.mem a).1 (List.mem_of_getElem? hi)
theorem at_join {i j : Nat} {a b : Qn} (hi : L[i]? = some a) (hj : L[j]? = some b) : L[jIx l L i j]? = some (QK l a b) := by
 have hel := (J9 l (QP E.ck) a b (E.el hi) (E.el hj)).el
 have hm := (E.mem _).2 hel
 have e : jIx l L i j = L.findIdx fun x => eqV x (QK l a b) := by
  unfold jIx
  rw [List.getD_eq_getElem?_getD, List.getD_eq_getElem?_getD, hi, hj]; rfl
 rw [e]
 have hlt : (L.findIdx fun x => eqV x (QK l a b)) < L.length := List.findIdx_lt_length_of_exists ⟨_, hm, (J8 _ _).2 rfl⟩
 rw [List.getElem?_eq_getElem hlt]
 exact congrArg some ((J8 _ _).1 (List.findIdx_getElem (w := hlt)))
theorem jlt {i j : Nat} (hi : i < L.length) (hj : j < L.length) : jIx l L i j < L.length := by
 obtain ⟨a, ha⟩ := Qk hi
 obtain ⟨b, hb⟩ := Qk hj
 exact (List.getElem?_eq_some_iff.1 (E.at_join ha hb)).1
theorem ex : ∃ z, z < L.length ∧ L[z]? = some (QL l) := by
 obtain ⟨z, hz⟩ := List.getElem?_of_mem ((E.mem _).2 (K2 l (QP E.ck)))
 exact ⟨z, (List.getElem?_eq_some_iff.1 hz).1, hz⟩
theorem pos : 1 ≤ L.length := by obtain ⟨z, h, -⟩ := E.ex; omega
theorem tabOf : KP (XD L.length (jIx l L)) L.length (jIx l L) := ⟨rfl, E.pos, E.le, fun _ _ hi hj => E.jlt hi hj⟩
theorem lat : ∃ z, KI L.length (jIx l L) z := by
 have hO := QP E.ck
 obtain ⟨z, hz, ez⟩ := E.ex
 refine ⟨z, fun _ _ hi hj => E.jlt hi hj, fun i hi => ?_, fun i j hi hj => ?_, fun i j k hi hj hk => ?_, hz, fun i hi => ?_⟩
 ·obtain ⟨a, ha⟩ := Qk hi
  have := E.at_join ha ha
  rw [QiZ hO (E.el ha)] at this
  exact E.inj this ha
 ·obtain ⟨a, ha⟩ := Qk hi
  obtain ⟨b, hb⟩ := Qk hj
  have h1 := E.at_join ha hb
  rw [Qqa hO (E.el ha) (E.el hb)] at h1
  exact E.inj h1 (E.at_join hb ha)
 ·obtain ⟨a, ha⟩ := Qk hi
  obtain ⟨b, hb⟩ := Qk hj
  obtain ⟨c, hc⟩ := Qk hk
  have h1 := E.at_join (E.at_join ha hb) hc
  rw [Qm0 hO (E.el ha) (E.el hb) (E.el hc)] at h1
  exact E.inj h1 (E.at_join ha (E.at_join hb hc))
 obtain ⟨a, ha⟩ := Qk hi
 have h1 := E.at_join ez ha
 rw [QlA hO (E.el ha)] at h1
 exact E.inj h1 ha
theorem le_iff {i j : Nat} {a b : Qn} (hi : L[i]? = some a) (hj : L[j]? = some b) : jIx l L i j = j ↔ QU l a b = true := by
 have hO := QP E.ck
 constructor
 ·intro h
  have h1 := E.at_join hi hj
  rw [h, hj] at h1
  rw [Option.some.inj h1]
  exact (J9 l hO a b (E.el hi) (E.el hj)).le1
 intro h
 have h1 := E.at_join hi hj
 rw [Qf3 hO (E.el hi) (E.el hj) h] at h1
 exact E.inj h1 hj
theorem at_meet {z : Nat} (hz : bot L.length (jIx l L) = some z) (Lf : KI L.length (jIx l L) z) {i j : Nat} {a b : Qn} (hi : L[i]? = some a) (hj : L[j]? = some b) : L[XZ L.length (jIx l L) i j]? = some (Q3 l a b) := by
 have hO := QP E.ck
 have hi' := (List.getElem?_eq_some_iff.1 hi).1
 have hj' := (List.getElem?_eq_some_iff.1 hj).1
 obtain ⟨h1, h2, h3, h4⟩ := Lf.meetF_spec hz hi' hj'
 obtain ⟨c, hc⟩ := Qk h1
 have G := KJ l hO (ChL.of l E.ck) (QhS l E.fin) a b (E.el hi) (E.el hj)
 obtain ⟨q, hq⟩ := List.getElem?_of_mem ((E.mem _).2 G.el)
 have hql := (List.getElem?_eq_some_iff.1 hq).1
 have h5 := h4 q hql ((E.le_iff hq hi).2 G.le1) ((E.le_iff hq hj).2 G.le2)
 have h6 := (E.le_iff hq hc).1 h5
 have h7 := G.gr c (E.el hc) ((E.le_iff hc hi).1 h2) ((E.le_iff hc hj).1 h3)
 rw [hc, Ko l hO _ _ (E.el hc) G.el h7 h6]
theorem dist {z : Nat} (hz : bot L.length (jIx l L) = some z) (Lf : KI L.length (jIx l L) z) (hD : Qal l = true) : QaM L.length (jIx l L) = true := by
 have hO := QP E.ck
 refine W3.2 fun i j k hi hj hk => ?_
 obtain ⟨a, ha⟩ := Qk hi
 obtain ⟨b, hb⟩ := Qk hj
 obtain ⟨c, hc⟩ := Qk hk
 have h1 := E.at_meet hz Lf ha (E.at_join hb hc)
 rw [QtA hO (ChL.of l E.ck) (QhS l E.fin) hD (E.el ha) (E.el hb) (E.el hc)] at h1
 exact E.inj h1 (E.at_join (E.at_meet hz Lf ha hb) (E.at_meet hz Lf ha hc))
end Qhp
theorem Qv3 {n : Nat} {f : Nat → Nat → Nat} {z : Nat} (L : KI n f z) : (vio n f).1 = 0 := by
 have h1 : Qiq n f = none := KH.2 fun a _ ha => by rw [if_pos (L.idem a ha)]
 have h2 : Qhk n f = none := KH.2 fun a _ ha => KH.2 fun b _ hb => by unfold Qbo; rw [if_pos (L.comm a b ha hb)]
 have h3 : Qgf n f = none := KH.2 fun a _ ha => KH.2 fun b _ hb => KH.2 fun c _ hc => by unfold Wq; rw [if_pos (L.assoc a b c ha hb hc)]
 rw [Qk0 h1 h2 h3, if_neg]
 intro hb
 have := KH.1 hb z (Nat.zero_le _) L.zlt
 rw [if_pos (Qoo.2 fun i hi => ⟨L.zl i hi, by rw [L.comm i z hi L.zlt]; exact L.zl i hi⟩)] at this
 cases this
theorem J0 {l : Qs} {L : List Qn} (E : Qhp l L) : (vio L.length (jIx l L)).1 = 0 := by obtain ⟨z, h⟩ := E.lat; exact Qv3 h
theorem Qc2 {l : Qs} (h : Qai l = 0) : ∃ L, Qhp l L ∧ L.length = cnt l ∧ K9 l = (L, 0) := by
 by_cases hc : Q0 l = 0
 ·cases hF : J3 l with
  | false => have := (Qld hc hF).2; rw [h] at this; cases this
  | true =>
   cases ha : Yz l with
   | none => have := Qlv hc hF ha; rw [h] at this; cases this
   | some L =>
    have e : K9 l = (Qkk L, 0) := by unfold K9; rw [if_pos hc, if_pos hF, ha]
    exact ⟨Qkk L, QrI hc hF ha, by unfold cnt; rw [e], e⟩
 have := (Qlo hc).2; rw [h] at this; cases this
theorem Qdz {l : Qs} {L : List Qn} (E : Qhp l L) (hv : K9 l = (L, 0)) : FC Tryz.prog 23 [.agg (QF l)] (.tup [Xr (XD L.length (jIx l L)), i64 0]) :=
 QkI l L L.length (jIx l L) rfl E.le (fun _ _ hi hj => E.jlt hi hj) (by have h := Qmt l; rw [hv] at h; exact h) E.lt fun i j a b w ha hb hw => by
  have hO := QP E.ck
  have sa := (Qks a l E.ck E.fin (E.el ha)).up (show 64 ≤ 1000 by decide)
  have sb := (Qks b l E.ck E.fin (E.el hb)).up (show 64 ≤ 1000 by decide)
  have h := Qoi l a b (fun _ => Qo0 hO (by simp [E.el ha, E.el hb, sa, sb]) (by simp))
  rw [QfT (Qjo E.ck (by simp [E.el ha, E.el hb])) (QkB hO (E.el ha))] at h
  rw [E.at_join ha hb] at hw
  cases hw
  exact h
end Go.Proofs.YtaecccdkjmipeaaGreat
