/-
  Contracts of the reference: least closed sets, all of them, 
-/
import Derived.Test.YtaecccdkjmipeaaGreatF21
import Derived.Test.YtaecccdkjmipeaaGreatA10
import Derived.Test.YtaecccdkjmipeaaGreatC1
import Derived.Test.YtaecccdkjmipeaaGreatC4
import Derived.Test.YtaecccdkjmipeaaGreatF20
import Derived.Test.YtaecccdkjmipeaaGreatA8
namespace Go.Proofs.YtaecccdkjmipeaaGreat
set_option maxRecDepth 100000
set_option maxHeartbeats 1000000
open Go.RowKit
theorem Qg2 {f : FuncId} {a b : List Nm} {r : AV} (h : FC Tryz.prog f [XU (a ++ b)] r) : FC Tryz.prog f [.sl ([] ++ a.map WS ++ b.map WS) none] r := by
 have e : XU (a ++ b) = .sl ([] ++ a.map WS ++ b.map WS) none := by simp
 rwa [e] at h
theorem Qpx {f : FuncId} {c : AV} {a b : List Nm} {r : AV} (h : FC Tryz.prog f [c, XU (a ++ b)] r) : FC Tryz.prog f [c, .sl ([] ++ a.map WS ++ b.map WS) none] r := by
 have e : XU (a ++ b) = .sl ([] ++ a.map WS ++ b.map WS) none := by simp
 rwa [e] at h
theorem QaO (a b : List Nm) : ∀ e ∈ [] ++ a.map WS ++ b.map WS, fzs e = some e := fun e he => by
 simp only [List.nil_append, List.mem_append] at he
 exact he.elim (Qay _ e) (Qay _ e)
theorem QaZ (a b : List Nm) : ([] ++ a.map WS ++ b.map WS).all (okE 1) = true := by simp only [List.all_append, Xa Yv, List.all_nil, Bool.and_self]
theorem QrZ {l : List Nm} {r : Ru} (h : Jn l r.t = true) : Yi l r = true := by unfold Yi; rw [h]; simp
theorem Qsu {l : List Nm} {r : Ru} (h : JR r.i l = false) : Yi l r = true := by unfold Yi; rw [h]; rfl
theorem QfN (rs : List Ru) (l : List Nm) (hr : rs.length ≤ 1000) (hri : ∀ r ∈ rs, r.i.length ≤ 1000) (hl : l.length ≤ 1000) : FC Tryz.prog 130 [rus rs, XU l] (XU (clR rs l)) := by
 refine Qd [4] Tryz.func130 rfl rfl 46 Tryz.ntmps130 (Nat.le_of_ble_eq_true rfl) ?_
 intro E hN
 refine Xz ?_; refine zP (Qc (Qhc l (by omega)) rfl rfl rfl) ?_; refine XJ ?_
 refine Qi (fun z : {q : Bool × List Nm // ClI rs l q.2 ∧ (q.1 = false → rs.all (Yi q.2) = true)} => ⟨[(0, rus rs), (5, XU z.1.2), (6, bl z.1.1)], [], 0⟩) (fun z => 2 * Qb7 rs z.1.2 + (if z.1.1 then 1 else 0)) (⟨(true, ofN l), ClI.start rs l, fun h => by cases h⟩) ?_ ?_
 ·
  exact Qa rfl (Xl trivial) trivial
 rintro ⟨⟨ag, o⟩, hI, hfin⟩
 dsimp only at hI hfin ⊢
 refine QA ?_
 refine zq ?_ ?_ <;> intro h6
 rotate_left
 ·
  have hag : ag = false := h6
  refine QA ?_; refine zQ ?_
  show XU o = XU (clR rs l)
  rw [hI.done (hfin hag)]
 have hag : ag = true := h6
 refine YJ ?_
 refine Qi (fun z : {q : Nat × Bool × List Nm // q.1 ≤ rs.length ∧ ClI rs l q.2.2 ∧ (q.2.1 = false → (rs.take q.1).all (Yi q.2.2) = true) ∧ 2 * Qb7 rs q.2.2 + (if q.2.1 then 1 else 0) < 2 * Qb7 rs o + 1} => ⟨[(0, rus rs), (5, XU z.1.2.2), (6, bl z.1.2.1), (7, i64 (z.1.1 : Nat))], [], 1⟩) (fun z => rs.length - z.1.1) (⟨(0, false, o), Nat.zero_le _, hI, by intro _; rfl, by simp⟩) ?_ ?_
 ·
  exact Qa rfl (QR trivial) trivial
 rintro ⟨⟨k, b, o2⟩, hk, hI2, hrow, hmu⟩
 dsimp only at hk hI2 hrow hmu ⊢
 refine XJ ?_
 refine zq ?_ ?_ <;> intro h12
 rotate_left
 ·
  have hge : (rs).length ≤ k := by simpa using h12
  refine Qc6 ?_
  exact ⟨⟨(b, o2), hI2, fun e => by have := hrow e; rwa [List.take_of_length_le hge] at this⟩, Qa rfl (Xl trivial) trivial, by subst hag; exact hmu⟩
 have hlt : k < (rs).length := by simpa using h12
 obtain ⟨x, hx⟩ := Qk hlt
 have hxm := List.mem_of_getElem? hx
 refine XJ ?_; refine zP (Qh rfl rfl rfl k rfl _ (Qq hx) rfl) ?_; refine QO ?_; refine zP (Qc (QgF o2 x.t) rfl rfl rfl) ?_
 refine QO ?_
 refine zc 25 ?_ ?_ <;> intro h16
 rotate_left
 ·
  have hok : Yi o2 x = true := QrZ (by simpa using h16)
  refine Qeo ?_; refine Qb ?_
  exact ⟨⟨(k + 1, b, o2), hlt, hI2, fun e => by rw [List.take_add_one, hx, List.all_append, hrow e]; simp [hok], hmu⟩, Qa rfl (Xl ⟨(QE (by dsimp only; omega)), rfl, trivial⟩) trivial, by dsimp only; omega⟩
 have hnt : x.t ∉ o2 := fun e => by rw [Jb.2 e] at h16; cases h16
 refine QO ?_; refine uP (X7 (m0 (n1 h16))) (Qh rfl rfl rfl k rfl _ (Qq hx) rfl) ?_; refine QC ?_
 refine uP (X7 (m0 (n1 h16))) (Qc (Qnk x.i o2 (by have := hri x hxm; omega)) rfl rfl rfl) ?_
 refine QO ?_
 refine zq ?_ ?_ <;> intro h20
 rotate_left
 ·
  have hok : Yi o2 x = true := Qsu h20
  refine QA ?_; refine Qb ?_
  exact ⟨⟨(k + 1, b, o2), hlt, hI2, fun e => by rw [List.take_add_one, hx, List.all_append, hrow e]; simp [hok], hmu⟩, Qa rfl (Xl ⟨(QE (by dsimp only; omega)), rfl, trivial⟩) trivial, by dsimp only; omega⟩
 have hsub := Jf.1 h20
 refine QaL (⟨[(0, rus rs), (7, i64 (k : Nat)), (5, XU (ofN (o2 ++ [x.t])))], [], 2⟩) ?_ ?_
 ·
  refine QdG hN 12 rfl (by kernel_rfl) (by kernel_rfl) (fun _ _ h => h) (fun E2 hN2 => ?_)
  refine Jo 1 rfl (by kernel_rfl) (by kernel_rfl) rfl ((Yf hN2 rfl rfl rfl rfl rfl rfl).wf) ?_
  refine Jo 3 rfl (by kernel_rfl) (by kernel_rfl) rfl ((Yf hN2 rfl rfl rfl rfl rfl rfl).wf) ?_
  refine Jo 4 rfl (by kernel_rfl) (by kernel_rfl) rfl ((Yf hN2 rfl rfl rfl rfl rfl rfl).wf) ?_
  refine Jo 5 rfl (by kernel_rfl) (by kernel_rfl) rfl ((Qgr hN2 rfl rfl rfl k rfl _ (Qq hx) rfl rfl rfl rfl rfl).wf) ?_
  refine Jo 6 rfl (by kernel_rfl) (by kernel_rfl) rfl ((Kd hN2 rfl rfl rfl rfl rfl rfl rfl rfl).wf) ?_
  refine Jo 7 rfl (by kernel_rfl) (by kernel_rfl) rfl (Qbn hN2 rfl rfl rfl rfl rfl rfl rfl rfl) ?_; refine Qgq ?_
  refine Qf [0, 8] (by kernel_rfl) rfl ⟨.inr (.inr (We hN2 rfl rfl rfl rfl rfl rfl rfl ?_)), .inl (Qx rfl ?_), trivial⟩
  ·
   change AU _ _ _ _ _ _ _ _
   refine Qf [2, 8] (by kernel_rfl) rfl ⟨.inr (.inr (Qe hN2 rfl rfl rfl rfl (by simp) rfl rfl (Xa Yv _) (by have := hI2.len; simp; omega) rfl rfl rfl rfl ?_)), .inl (Qx rfl ?_), trivial⟩
   ·
    change AU _ _ _ _ _ _ _ _
    refine Qf [8] (by kernel_rfl) rfl ⟨.inl (Qx rfl ?_), trivial⟩
    refine X1 hN2 (Qj rfl rfl rfl rfl (by exact rfl) (by decide) (by decide)) rfl rfl rfl rfl ?_
    change AU _ _ _ _ _ _ _ _
    refine Qf [9] (by kernel_rfl) rfl ⟨.inr (.inr (Qe hN2 rfl rfl rfl rfl (by simp) rfl rfl (by rfl) (by have := hI2.len; simp [Qg]; omega) rfl rfl rfl rfl ?_)), trivial⟩
    change AU _ _ _ _ _ _ _ _
    refine Qf [10] (by kernel_rfl) rfl ⟨.inr (.inr (Xg hN2 rfl rfl rfl rfl rfl (QB 43 1 rfl rfl (by simp [Qg]) (QaZ _ [x.t]) (QaO _ [x.t]) rfl) (Qc (Qg2 (Qhc (o2 ++ [x.t]) (by have := hI2.len; simp; omega))) rfl rfl rfl) ?_)), trivial⟩
    change AU _ _ _ _ _ _ _ _
    refine Xy 11 rfl (by kernel_rfl) (by kernel_rfl) rfl (Q9 hN2 rfl rfl rfl rfl rfl rfl) ?_; refine yD ?_
    exact Qa rfl (Xl trivial) trivial
   refine X1 hN2 (Qj rfl rfl rfl rfl (by exact rfl) (by decide) (by decide)) rfl rfl rfl rfl ?_
   change AU _ _ _ _ _ _ _ _
   refine Qf [2] (by kernel_rfl) rfl ⟨.inr (.inr (Qe hN2 rfl rfl rfl rfl (by simp) rfl rfl (Xa Yv _) (by have := hI2.len; simp; omega) rfl rfl rfl rfl ?_)), trivial⟩
   change AU _ _ _ _ _ _ _ _
   refine Qf [9] (by kernel_rfl) rfl ⟨.inr (.inr (Qe hN2 rfl rfl rfl rfl (by simp) rfl rfl (by rfl) (by have := hI2.len; simp [Qg]; omega) rfl rfl rfl rfl ?_)), trivial⟩
   change AU _ _ _ _ _ _ _ _
   refine Qf [10] (by kernel_rfl) rfl ⟨.inr (.inr (Xg hN2 rfl rfl rfl rfl rfl (QB 43 1 rfl rfl (by simp [Qg]) (QaZ _ [x.t]) (QaO _ [x.t]) rfl) (Qc (Qg2 (Qhc (o2 ++ [x.t]) (by have := hI2.len; simp; omega))) rfl rfl rfl) ?_)), trivial⟩
   change AU _ _ _ _ _ _ _ _
   refine Xy 11 rfl (by kernel_rfl) (by kernel_rfl) rfl (Q9 hN2 rfl rfl rfl rfl rfl rfl) ?_; refine yD ?_
   exact Qa rfl (Xl trivial) trivial
  refine X1 hN2 (Qj rfl rfl rfl rfl (by exact rfl) (by decide) (by decide)) rfl rfl rfl rfl ?_
  change AU _ _ _ _ _ _ _ _
  refine Qf [0] (by kernel_rfl) rfl ⟨.inr (.inr (We hN2 rfl rfl rfl rfl rfl rfl rfl ?_)), trivial⟩
  change AU _ _ _ _ _ _ _ _
  refine Qf [2] (by kernel_rfl) rfl ⟨.inr (.inr (Qe hN2 rfl rfl rfl rfl (by simp) rfl rfl (Xa Yv _) (by have := hI2.len; simp; omega) rfl rfl rfl rfl ?_)), trivial⟩
  change AU _ _ _ _ _ _ _ _
  refine Qf [9] (by kernel_rfl) rfl ⟨.inr (.inr (Qe hN2 rfl rfl rfl rfl (by simp) rfl rfl (by rfl) (by have := hI2.len; simp [Qg]; omega) rfl rfl rfl rfl ?_)), trivial⟩
  change AU _ _ _ _ _ _ _ _
  refine Qf [10] (by kernel_rfl) rfl ⟨.inr (.inr (Xg hN2 rfl rfl rfl rfl rfl (QB 43 1 rfl rfl (by simp [Qg]) (QaZ _ [x.t]) (QaO _ [x.t]) rfl) (Qc (Qg2 (Qhc (o2 ++ [x.t]) (by have := hI2.len; simp; omega))) rfl rfl rfl) ?_)), trivial⟩
  change AU _ _ _ _ _ _ _ _
  refine Xy 11 rfl (by kernel_rfl) (by kernel_rfl) rfl (Q9 hN2 rfl rfl rfl rfl rfl rfl) ?_; refine yD ?_
  exact Qa rfl (Xl trivial) trivial
 refine Xz ?_; refine Qb ?_
 exact ⟨⟨(k + 1, true, ofN (o2 ++ [x.t])), hlt, hI2.step hxm hnt hsub, (fun h => by cases h), by have := Qi1 hxm hnt hsub; show 2 * Qb7 rs (ofN (o2 ++ [x.t])) + 1 < _; omega⟩, Qa rfl (Xl ⟨(QE (by dsimp only; omega)), rfl, trivial⟩) trivial, by dsimp only; omega⟩
theorem QpT (a b : List Nm) : FC Tryz.prog 132 [XU a, XU b] (bl (a == b)) := by
 refine Qd [4] Tryz.func132 rfl rfl 26 Tryz.ntmps132 (Nat.le_of_ble_eq_true rfl) ?_
 intro E hN
 refine JK 0 rfl (fun hl0 => ?_)
 refine Wi ?_
 refine zq ?_ ?_ <;> intro h5
 ·
  have hne : a.length ≠ b.length := by
   have : ¬ (a.length : Int) = b.length := by simpa using h5
   omega
  refine QC ?_; refine zQ ?_
  exact Qt (beq_eq_false_iff_ne.2 (fun e => hne (by rw [e]))).symm
 have hle : a.length = b.length := by
  have : (a.length : Int) = b.length := by simpa using h5
  omega
 refine Xz ?_
 refine Qi (fun x : {k : Nat // k ≤ (a).length ∧ a.take k = b.take k} => ⟨[(0, XU a), (1, XU b), (5, i64 (x.1 : Nat))], [], 0⟩) (fun x => (a).length - x.1) (⟨0, Nat.zero_le _, by simp⟩) ?_ ?_
 ·
  exact Qa rfl (Xl trivial) trivial
 rintro ⟨k, hk, hg⟩
 dsimp only
 refine XJ ?_
 refine zq ?_ ?_ <;> intro h10
 rotate_left
 ·
  have hge : (a).length ≤ k := by simpa using h10
  refine QJ ?_; refine zQ ?_
  exact Qt (by
   rw [List.take_of_length_le hge, List.take_of_length_le (by omega)] at hg
   exact (beq_iff_eq.2 hg).symm)
 have hlt : k < (a).length := by simpa using h10
 obtain ⟨x, hx⟩ := Qk hlt
 obtain ⟨y, hy⟩ := Qk (show k < b.length by omega)
 refine QJ ?_; refine Qy 8 (by kernel_rfl) (by kernel_rfl) ?_; refine QO ?_; refine zp (Qh rfl rfl rfl k rfl _ (Qq hx) rfl) ?_
 refine QC ?_; refine zp (Qh rfl rfl rfl k rfl _ (Qq hy) rfl) ?_; refine zl ?_; change Qz _ _ _ _ _ _; refine QO ?_
 refine zq ?_ ?_ <;> intro h15
 ·
  have h6 : x ≠ y := by simpa using h15
  refine QC ?_; refine zQ ?_
  exact Qt (beq_eq_false_iff_ne.2 (fun e => by subst e; rw [hx] at hy; exact h6 (Option.some.inj hy))).symm
 have h6 : x = y := by simpa using h15
 refine QA ?_; refine Qb ?_
 exact ⟨⟨k + 1, hlt, by rw [List.take_add_one, List.take_add_one, hg, hx, hy, h6]⟩, Qa rfl (Jg ⟨(QE (by dsimp only; omega)), rfl, trivial⟩) trivial, by dsimp only; omega⟩
theorem Qcn {α : Type} {f : α → List AV} {k : Nat} (h : ∀ x, (f x).length = k) {l : List α} : ∀ e ∈ l.map f, e.length = k := fun e he => by obtain ⟨x, -, rfl⟩ := List.mem_map.1 he; exact h x
def sv2 (s : List Nm) : List AV := [XU s]
theorem QoZ (l : List (List Nm)) : ∀ e ∈ l.map sv2, fzs e = some e := JB (fun _ => rfl) l
theorem Qbk {rs : List Ru} {s : List Nm} {x : Nm} (hr : rs.length ≤ 1000) (hri : ∀ r ∈ rs, r.i.length ≤ 1000) (hs : s.length ≤ 999) : FC Tryz.prog 130 [rus rs, .sl ([] ++ s.map WS ++ [x].map WS) none] (XU (K0 rs s x)) := Qpx (b := [x]) (QfN rs (s ++ [x]) hr hri (by simp; omega))
theorem YS {l : List (List Nm)} : l.length = (l.map sv2).length := by simp
theorem Qp4 {rs : List Ru} {i : Nat} {out : List (List Nm)} {s : List Nm} {x : Nm} (hs : out[i]? = some s) (h : Jn s x = true) : Qa0 rs i out x = out := by unfold Qa0; rw [hs]; simp [h]
theorem Qp3 {rs : List Ru} {i : Nat} {out : List (List Nm)} {s : List Nm} {x : Nm} (hs : out[i]? = some s) (h : Jn s x = false) (h2 : out.any (fun t => t == K0 rs s x) = true) : Qa0 rs i out x = out := by
 unfold Qa0; rw [hs]; simp only [h, Bool.false_eq_true, if_false]; rw [if_pos h2]
theorem QpR {rs : List Ru} {i : Nat} {out : List (List Nm)} {s : List Nm} {x : Nm} (hs : out[i]? = some s) (h : Jn s x = false) (h2 : out.any (fun t => t == K0 rs s x) = false) : Qa0 rs i out x = out ++ [K0 rs s x] := by
 unfold Qa0; rw [hs]; simp only [h, Bool.false_eq_true, if_false]; rw [if_neg (by rw [h2]; decide)]
theorem QlN {α : Type} {q : α → Bool} {l : List α} {k : Nat} {x : α} (h : l[k]? = some x) : (l.take (k + 1)).any q = ((l.take k).any q || q x) := by
 rw [List.take_add_one, h, List.any_append]; simp
theorem Qk6 (nm : List Nm) (rs : List Ru) (hn : Qo nm = true) (hr : ∀ r ∈ rs, r.t ∈ nm) (hri : ∀ r ∈ rs, r.i.length ≤ 1000) (hrs : rs.length ≤ 1000) (h32 : nm.length ≤ 32) : FC Tryz.prog 87 [XU nm, rus rs] (.sl ((Qgh nm rs).map sv2) none) := by
 refine Qd [4] Tryz.func87 rfl rfl 81 Tryz.ntmps87 (Nat.le_of_ble_eq_true rfl) ?_
 intro E hN
 refine Xz ?_; refine zP (Qc (QfN rs [] hrs hri (by decide)) rfl rfl rfl) ?_
 refine QiN hN rfl rfl rfl rfl (n := 1) rfl (by decide) (by decide) (es := [sv2 (clR rs [])]) rfl rfl (by intro e he; simp at he; subst he; rfl) rfl rfl rfl rfl ?_
 refine XJ ?_
 refine Qi (fun z : {q : Nat × List (List Nm) // (q.2.length ≤ 256 → SuI nm rs q.2 q.1 0) ∧ q.1 ≤ 257 ∧ q.2.length ≤ 257 ∧ suI nm rs (300 - q.1) q.1 q.2 = Qgh nm rs} => ⟨[(0, XU nm), (1, rus rs), (5, .own 0 z.1.2.length), (6, i64 (z.1.1 : Nat))], [(0, .arr 22 1 (z.1.2.map sv2))], 1⟩) (fun z => 300 - z.1.1) (⟨(0, [clR rs []]), fun _ => SuI.start hn hr, Nat.zero_le _, by simp, rfl⟩) ?_ ?_
 ·
  exact Qa rfl (QR trivial) ⟨(Yl rfl), rfl, (QN (fun _ => rfl) _), trivial⟩
 rintro ⟨⟨i, o⟩, hI', hi, hol, hrun⟩
 dsimp only at hI' hi hol hrun ⊢
 refine QA ?_; refine zP (Yn rfl rfl rfl YS) ?_; refine QO ?_
 refine zc 18 ?_ ?_ <;> intro h10
 rotate_left
 ·
  have hio : ¬ i < o.length := by simpa using h10
  have hstop : ¬ (i < o.length ∧ o.length ≤ 256) := fun h => hio h.1
  refine XJ ?_; refine Qu (QB 5 0 rfl rfl YS (XA (fun _ => rfl) _) (QoZ _) rfl) ?_; refine QC ?_; refine zQ ?_
  rw [← hrun, QgC hstop]
 have hio : i < o.length := by simpa using h10
 refine KO ?_; refine uP (X7 h10) (Yn rfl rfl rfl YS) ?_; refine QC ?_
 refine zq ?_ ?_ <;> intro h12
 rotate_left
 ·
  have hstop : ¬ (i < o.length ∧ o.length ≤ 256) := fun h => by have := of_decide_eq_false h12; omega
  refine QO ?_; refine Qu (QB 5 0 rfl rfl YS (XA (fun _ => rfl) _) (QoZ _) rfl) ?_; refine QC ?_; refine zQ ?_
  rw [← hrun, QgC hstop]
 have ho256 : o.length ≤ 256 := by have := of_decide_eq_true h12; omega
 have hI := hI' ho256
 refine XJ ?_
 refine Qi (fun z : {q : Nat × List (List Nm) // q.1 ≤ nm.length ∧ SuI nm rs q.2 i q.1 ∧ i < q.2.length ∧ q.2.length ≤ 257 ∧ suK rs i (nm.drop q.1) q.2 = suK rs i nm o} => ⟨[(0, XU nm), (1, rus rs), (5, .own 0 z.1.2.length), (6, i64 (i : Nat)), (7, i64 (z.1.1 : Nat))], [(0, .arr 22 1 (z.1.2.map sv2))], 1⟩) (fun z => nm.length - z.1.1) (⟨(0, o), Nat.zero_le _, hI, hio, hol, rfl⟩) ?_ ?_
 ·
  exact Qa rfl (QR (Xu trivial)) ⟨rfl, rfl, (QN (fun _ => rfl) _), trivial⟩
 rintro ⟨⟨k, out⟩, hk, hS, hio2, hl, hrow⟩
 dsimp only at hk hS hio2 hl hrow ⊢
 obtain ⟨s, hs⟩ := Qk hio2
 have hs31 : s.length ≤ 32 := Nat.le_trans (hS.sub s (List.mem_of_getElem? hs)).1.length_le h32
 refine XJ ?_
 refine zc 29 ?_ ?_ <;> intro h19
 rotate_left
 ·
  have hge : nm.length ≤ k := by simpa using h19
  have hend : suK rs i nm o = out := by rw [← hrow, Qgv (.inl hge)]
  have hnx : out.length ≤ 256 → SuI nm rs out (i + 1) 0 := fun _ => hS.next hge
  have hrun2 : suI nm rs (300 - (i + 1)) (i + 1) out = Qgh nm rs := by rw [← hrun, show 300 - i = (300 - (i + 1)) + 1 by omega, QmC hio ho256, hend]
  refine YJ ?_; refine Qb ?_
  exact ⟨⟨(i + 1, out), hnx, by dsimp only; omega, hl, hrun2⟩, Qa rfl (Xl ⟨(QE (by dsimp only; omega)), rfl, trivial⟩) ⟨rfl, rfl, (QN (fun _ => rfl) _), trivial⟩, by dsimp only; omega⟩
 have hlt : k < nm.length := by simpa using h19
 obtain ⟨x, hx⟩ := Qk hlt
 refine KO ?_; refine uP (X7 h19) (Yn rfl rfl rfl YS) ?_; refine QC ?_
 refine zq ?_ ?_ <;> intro h21
 rotate_left
 ·
  have hb256 : ¬ out.length ≤ 256 := fun h => by have := of_decide_eq_false h21; omega
  have hend : suK rs i nm o = out := by rw [← hrow, Qgv (.inr hb256)]
  have hnx : out.length ≤ 256 → SuI nm rs out (i + 1) 0 := fun h => absurd h hb256
  have hrun2 : suI nm rs (300 - (i + 1)) (i + 1) out = Qgh nm rs := by rw [← hrun, show 300 - i = (300 - (i + 1)) + 1 by omega, QmC hio ho256, hend]
  refine QA ?_; refine Qb ?_
  exact ⟨⟨(i + 1, out), hnx, by dsimp only; omega, hl, hrun2⟩, Qa rfl (Xl ⟨(QE (by dsimp only; omega)), rfl, trivial⟩) ⟨rfl, rfl, (QN (fun _ => rfl) _), trivial⟩, by dsimp only; omega⟩
 have hb256 : out.length ≤ 256 := by have := of_decide_eq_true h21; omega
 refine QA ?_; refine Qy 8 (by kernel_rfl) (by kernel_rfl) ?_; refine QO ?_; refine zp (JL rfl rfl rfl rfl YS i rfl hio2) ?_
 refine zp (JG rfl rfl rfl YS (Qcn (f := sv2) (fun _ => rfl)) i rfl (Qq hs) (fun _ => rfl) rfl) ?_; refine QO ?_
 refine zp (Qh rfl rfl rfl k rfl _ (Qq hx) rfl) ?_; refine zl ?_; change Qz _ _ _ _ _ _; refine zP (Qc (QgF s x) rfl rfl rfl) ?_
 refine zN ?_
 refine zq ?_ ?_ <;> intro h26
 ·
  have hone := Qp4 (rs := rs) hs h26
  refine QA ?_; refine Qb ?_
  exact ⟨⟨(k + 1, Qa0 rs i out x), hlt, (hS.one hn hr hio2 hx).1, (hS.one hn hr hio2 hx).2.1, by have := (hS.one hn hr hio2 hx).2.2; dsimp only; omega, by rw [← hrow, QjI hx hb256]⟩, Qa rfl (Jg ⟨(Kq (by dsimp only; first | (rw [hone]; done) | (rw [hone]; simp [Qg]; done))), rfl, rfl, rfl, (QE (by dsimp only; omega)), rfl, trivial⟩) ⟨(Yl (by dsimp only; first | (rw [hone]; done) | (rw [hone, List.map_append]; rfl))), rfl, (QN (fun _ => rfl) _), trivial⟩, by dsimp only; omega⟩
 have hns : Jn s x = false := h26
 refine zW ?_
 refine QaL (⟨[(0, XU nm), (1, rus rs), (5, .own 0 out.length), (6, i64 (i : Nat)), (7, i64 (k : Nat)), (8, XU (K0 rs s x))], [(0, .arr 22 1 (out.map sv2))], 2⟩) ?_ ?_
 ·
  refine QdG hN 15 rfl (by kernel_rfl) (by kernel_rfl) (fun _ _ h => h) (fun E2 hN2 => ?_)
  refine Jo 0 rfl (by kernel_rfl) (by kernel_rfl) rfl ((Yf hN2 rfl rfl rfl rfl rfl rfl).wf) ?_
  refine Jo 2 rfl (by kernel_rfl) (by kernel_rfl) rfl ((Yf hN2 rfl rfl rfl rfl rfl rfl).wf) ?_
  refine Jo 3 rfl (by kernel_rfl) (by kernel_rfl) rfl ((Yf hN2 rfl rfl rfl rfl rfl rfl).wf) ?_
  refine Jo 4 rfl (by kernel_rfl) (by kernel_rfl) rfl ((Qkn hN2 rfl rfl rfl rfl YS i rfl hio2 rfl rfl rfl rfl).wf) ?_
  refine Jo 7 rfl (by kernel_rfl) (by kernel_rfl) rfl ((Yf hN2 rfl rfl rfl rfl rfl rfl).wf) ?_
  refine Jo 8 rfl (by kernel_rfl) (by kernel_rfl) rfl ((Yf hN2 rfl rfl rfl rfl rfl rfl).wf) ?_
  refine Jo 9 rfl (by kernel_rfl) (by kernel_rfl) rfl ((Qgr hN2 rfl rfl rfl k rfl _ (Qq hx) rfl rfl rfl rfl rfl).wf) ?_
  refine Jo 10 rfl (by kernel_rfl) (by kernel_rfl) rfl (Qbn hN2 rfl rfl rfl rfl rfl rfl rfl rfl) ?_; refine Qgq ?_
  refine Qf [1, 5, 11] (by kernel_rfl) rfl ⟨.inr (.inr (We hN2 rfl rfl rfl rfl rfl rfl rfl ?_)), .inl (Qx rfl ?_), .inl (Qx rfl ?_), trivial⟩
  ·
   change AU _ _ _ _ _ _ _ _
   refine Qf [5, 11] (by kernel_rfl) rfl ⟨.inl (Qx rfl ?_), .inl (Qx rfl ?_), trivial⟩
   ·
    refine X1 hN2 (JG rfl rfl rfl YS (Qcn (f := sv2) (fun _ => rfl)) i rfl (Qq hs) (fun _ => rfl) rfl) rfl rfl rfl rfl ?_
    change AU _ _ _ _ _ _ _ _
    refine Qf [6, 11] (by kernel_rfl) rfl ⟨.inr (.inr (Qe hN2 rfl rfl rfl rfl (by simp) rfl rfl (Xa Yv _) (by simp; omega) rfl rfl rfl rfl ?_)), .inl (Qx rfl ?_), trivial⟩
    ·
     change AU _ _ _ _ _ _ _ _
     refine Qf [11] (by kernel_rfl) rfl ⟨.inl (Qx rfl ?_), trivial⟩
     refine X1 hN2 (Qj rfl rfl rfl rfl (by exact rfl) (by decide) (by decide)) rfl rfl rfl rfl ?_
     change AU _ _ _ _ _ _ _ _
     refine Qf [12] (by kernel_rfl) rfl ⟨.inr (.inr (Qe hN2 rfl rfl rfl rfl (by simp) rfl rfl (by rfl) (by simp [Qg]; omega) rfl rfl rfl rfl ?_)), trivial⟩
     change AU _ _ _ _ _ _ _ _
     refine Qf [13] (by kernel_rfl) rfl ⟨.inr (.inr (Xg hN2 rfl rfl rfl rfl rfl (QB 57 1 rfl rfl (by simp [Qg]) (QaZ _ [x]) (QaO _ [x]) rfl) (Qc (Qbk hrs hri (by omega)) rfl rfl rfl) ?_)), trivial⟩
     change AU _ _ _ _ _ _ _ _
     refine Xy 14 rfl (by kernel_rfl) (by kernel_rfl) rfl (Q9 hN2 rfl rfl rfl rfl rfl rfl) ?_; refine yD ?_
     exact Qa rfl (QR (Jg trivial)) ⟨rfl, rfl, (QN (fun _ => rfl) _), trivial⟩
    refine X1 hN2 (Qj rfl rfl rfl rfl (by exact rfl) (by decide) (by decide)) rfl rfl rfl rfl ?_
    change AU _ _ _ _ _ _ _ _
    refine Qf [6] (by kernel_rfl) rfl ⟨.inr (.inr (Qe hN2 rfl rfl rfl rfl (by simp) rfl rfl (Xa Yv _) (by simp; omega) rfl rfl rfl rfl ?_)), trivial⟩
    change AU _ _ _ _ _ _ _ _
    refine Qf [12] (by kernel_rfl) rfl ⟨.inr (.inr (Qe hN2 rfl rfl rfl rfl (by simp) rfl rfl (by rfl) (by simp [Qg]; omega) rfl rfl rfl rfl ?_)), trivial⟩
    change AU _ _ _ _ _ _ _ _
    refine Qf [13] (by kernel_rfl) rfl ⟨.inr (.inr (Xg hN2 rfl rfl rfl rfl rfl (QB 57 1 rfl rfl (by simp [Qg]) (QaZ _ [x]) (QaO _ [x]) rfl) (Qc (Qbk hrs hri (by omega)) rfl rfl rfl) ?_)), trivial⟩
    change AU _ _ _ _ _ _ _ _
    refine Xy 14 rfl (by kernel_rfl) (by kernel_rfl) rfl (Q9 hN2 rfl rfl rfl rfl rfl rfl) ?_; refine yD ?_
    exact Qa rfl (QR (Jg trivial)) ⟨rfl, rfl, (QN (fun _ => rfl) _), trivial⟩
   refine X1 hN2 (Qj rfl rfl rfl rfl (by exact rfl) (by decide) (by decide)) rfl rfl rfl rfl ?_
   change AU _ _ _ _ _ _ _ _
   refine Qf [5] (by kernel_rfl) rfl ⟨.inl (Qx rfl ?_), trivial⟩
   refine X1 hN2 (JG rfl rfl rfl YS (Qcn (f := sv2) (fun _ => rfl)) i rfl (Qq hs) (fun _ => rfl) rfl) rfl rfl rfl rfl ?_
   change AU _ _ _ _ _ _ _ _
   refine Qf [6] (by kernel_rfl) rfl ⟨.inr (.inr (Qe hN2 rfl rfl rfl rfl (by simp) rfl rfl (Xa Yv _) (by simp; omega) rfl rfl rfl rfl ?_)), trivial⟩
   change AU _ _ _ _ _ _ _ _
   refine Qf [12] (by kernel_rfl) rfl ⟨.inr (.inr (Qe hN2 rfl rfl rfl rfl (by simp) rfl rfl (by rfl) (by simp [Qg]; omega) rfl rfl rfl rfl ?_)), trivial⟩
   change AU _ _ _ _ _ _ _ _
   refine Qf [13] (by kernel_rfl) rfl ⟨.inr (.inr (Xg hN2 rfl rfl rfl rfl rfl (QB 57 1 rfl rfl (by simp [Qg]) (QaZ _ [x]) (QaO _ [x]) rfl) (Qc (Qbk hrs hri (by omega)) rfl rfl rfl) ?_)), trivial⟩
   change AU _ _ _ _ _ _ _ _
   refine Xy 14 rfl (by kernel_rfl) (by kernel_rfl) rfl (Q9 hN2 rfl rfl rfl rfl rfl rfl) ?_; refine yD ?_
   exact Qa rfl (QR (Jg trivial)) ⟨rfl, rfl, (QN (fun _ => rfl) _), trivial⟩
  ·
   refine X1 hN2 (JG rfl rfl rfl YS (Qcn (f := sv2) (fun _ => rfl)) i rfl (Qq hs) (fun _ => rfl) rfl) rfl rfl rfl rfl ?_
   change AU _ _ _ _ _ _ _ _
   refine Qf [1, 11] (by kernel_rfl) rfl ⟨.inr (.inr (We hN2 rfl rfl rfl rfl rfl rfl rfl ?_)), .inl (Qx rfl ?_), trivial⟩
   ·
    change AU _ _ _ _ _ _ _ _
    refine Qf [6, 11] (by kernel_rfl) rfl ⟨.inr (.inr (Qe hN2 rfl rfl rfl rfl (by simp) rfl rfl (Xa Yv _) (by simp; omega) rfl rfl rfl rfl ?_)), .inl (Qx rfl ?_), trivial⟩
    ·
     change AU _ _ _ _ _ _ _ _
     refine Qf [11] (by kernel_rfl) rfl ⟨.inl (Qx rfl ?_), trivial⟩
     refine X1 hN2 (Qj rfl rfl rfl rfl (by exact rfl) (by decide) (by decide)) rfl rfl rfl rfl ?_
     change AU _ _ _ _ _ _ _ _
     refine Qf [12] (by kernel_rfl) rfl ⟨.inr (.inr (Qe hN2 rfl rfl rfl rfl (by simp) rfl rfl (by rfl) (by simp [Qg]; omega) rfl rfl rfl rfl ?_)), trivial⟩
     change AU _ _ _ _ _ _ _ _
     refine Qf [13] (by kernel_rfl) rfl ⟨.inr (.inr (Xg hN2 rfl rfl rfl rfl rfl (QB 57 1 rfl rfl (by simp [Qg]) (QaZ _ [x]) (QaO _ [x]) rfl) (Qc (Qbk hrs hri (by omega)) rfl rfl rfl) ?_)), trivial⟩
     change AU _ _ _ _ _ _ _ _
     refine Xy 14 rfl (by kernel_rfl) (by kernel_rfl) rfl (Q9 hN2 rfl rfl rfl rfl rfl rfl) ?_; refine yD ?_
     exact Qa rfl (QR (Jg trivial)) ⟨rfl, rfl, (QN (fun _ => rfl) _), trivial⟩
    refine X1 hN2 (Qj rfl rfl rfl rfl (by exact rfl) (by decide) (by decide)) rfl rfl rfl rfl ?_
    change AU _ _ _ _ _ _ _ _
    refine Qf [6] (by kernel_rfl) rfl ⟨.inr (.inr (Qe hN2 rfl rfl rfl rfl (by simp) rfl rfl (Xa Yv _) (by simp; omega) rfl rfl rfl rfl ?_)), trivial⟩
    change AU _ _ _ _ _ _ _ _
    refine Qf [12] (by kernel_rfl) rfl ⟨.inr (.inr (Qe hN2 rfl rfl rfl rfl (by simp) rfl rfl (by rfl) (by simp [Qg]; omega) rfl rfl rfl rfl ?_)), trivial⟩
    change AU _ _ _ _ _ _ _ _
    refine Qf [13] (by kernel_rfl) rfl ⟨.inr (.inr (Xg hN2 rfl rfl rfl rfl rfl (QB 57 1 rfl rfl (by simp [Qg]) (QaZ _ [x]) (QaO _ [x]) rfl) (Qc (Qbk hrs hri (by omega)) rfl rfl rfl) ?_)), trivial⟩
    change AU _ _ _ _ _ _ _ _
    refine Xy 14 rfl (by kernel_rfl) (by kernel_rfl) rfl (Q9 hN2 rfl rfl rfl rfl rfl rfl) ?_; refine yD ?_
    exact Qa rfl (QR (Jg trivial)) ⟨rfl, rfl, (QN (fun _ => rfl) _), trivial⟩
   refine X1 hN2 (Qj rfl rfl rfl rfl (by exact rfl) (by decide) (by decide)) rfl rfl rfl rfl ?_
   change AU _ _ _ _ _ _ _ _
   refine Qf [1] (by kernel_rfl) rfl ⟨.inr (.inr (We hN2 rfl rfl rfl rfl rfl rfl rfl ?_)), trivial⟩
   change AU _ _ _ _ _ _ _ _
   refine Qf [6] (by kernel_rfl) rfl ⟨.inr (.inr (Qe hN2 rfl rfl rfl rfl (by simp) rfl rfl (Xa Yv _) (by simp; omega) rfl rfl rfl rfl ?_)), trivial⟩
   change AU _ _ _ _ _ _ _ _
   refine Qf [12] (by kernel_rfl) rfl ⟨.inr (.inr (Qe hN2 rfl rfl rfl rfl (by simp) rfl rfl (by rfl) (by simp [Qg]; omega) rfl rfl rfl rfl ?_)), trivial⟩
   change AU _ _ _ _ _ _ _ _
   refine Qf [13] (by kernel_rfl) rfl ⟨.inr (.inr (Xg hN2 rfl rfl rfl rfl rfl (QB 57 1 rfl rfl (by simp [Qg]) (QaZ _ [x]) (QaO _ [x]) rfl) (Qc (Qbk hrs hri (by omega)) rfl rfl rfl) ?_)), trivial⟩
   change AU _ _ _ _ _ _ _ _
   refine Xy 14 rfl (by kernel_rfl) (by kernel_rfl) rfl (Q9 hN2 rfl rfl rfl rfl rfl rfl) ?_; refine yD ?_
   exact Qa rfl (QR (Jg trivial)) ⟨rfl, rfl, (QN (fun _ => rfl) _), trivial⟩
  refine X1 hN2 (Qj rfl rfl rfl rfl (by exact rfl) (by decide) (by decide)) rfl rfl rfl rfl ?_
  change AU _ _ _ _ _ _ _ _
  refine Qf [1, 5] (by kernel_rfl) rfl ⟨.inr (.inr (We hN2 rfl rfl rfl rfl rfl rfl rfl ?_)), .inl (Qx rfl ?_), trivial⟩
  ·
   change AU _ _ _ _ _ _ _ _
   refine Qf [5] (by kernel_rfl) rfl ⟨.inl (Qx rfl ?_), trivial⟩
   refine X1 hN2 (JG rfl rfl rfl YS (Qcn (f := sv2) (fun _ => rfl)) i rfl (Qq hs) (fun _ => rfl) rfl) rfl rfl rfl rfl ?_
   change AU _ _ _ _ _ _ _ _
   refine Qf [6] (by kernel_rfl) rfl ⟨.inr (.inr (Qe hN2 rfl rfl rfl rfl (by simp) rfl rfl (Xa Yv _) (by simp; omega) rfl rfl rfl rfl ?_)), trivial⟩
   change AU _ _ _ _ _ _ _ _
   refine Qf [12] (by kernel_rfl) rfl ⟨.inr (.inr (Qe hN2 rfl rfl rfl rfl (by simp) rfl rfl (by rfl) (by simp [Qg]; omega) rfl rfl rfl rfl ?_)), trivial⟩
   change AU _ _ _ _ _ _ _ _
   refine Qf [13] (by kernel_rfl) rfl ⟨.inr (.inr (Xg hN2 rfl rfl rfl rfl rfl (QB 57 1 rfl rfl (by simp [Qg]) (QaZ _ [x]) (QaO _ [x]) rfl) (Qc (Qbk hrs hri (by omega)) rfl rfl rfl) ?_)), trivial⟩
   change AU _ _ _ _ _ _ _ _
   refine Xy 14 rfl (by kernel_rfl) (by kernel_rfl) rfl (Q9 hN2 rfl rfl rfl rfl rfl rfl) ?_; refine yD ?_
   exact Qa rfl (QR (Jg trivial)) ⟨rfl, rfl, (QN (fun _ => rfl) _), trivial⟩
  refine X1 hN2 (JG rfl rfl rfl YS (Qcn (f := sv2) (fun _ => rfl)) i rfl (Qq hs) (fun _ => rfl) rfl) rfl rfl rfl rfl ?_
  change AU _ _ _ _ _ _ _ _
  refine Qf [1] (by kernel_rfl) rfl ⟨.inr (.inr (We hN2 rfl rfl rfl rfl rfl rfl rfl ?_)), trivial⟩
  change AU _ _ _ _ _ _ _ _
  refine Qf [6] (by kernel_rfl) rfl ⟨.inr (.inr (Qe hN2 rfl rfl rfl rfl (by simp) rfl rfl (Xa Yv _) (by simp; omega) rfl rfl rfl rfl ?_)), trivial⟩
  change AU _ _ _ _ _ _ _ _
  refine Qf [12] (by kernel_rfl) rfl ⟨.inr (.inr (Qe hN2 rfl rfl rfl rfl (by simp) rfl rfl (by rfl) (by simp [Qg]; omega) rfl rfl rfl rfl ?_)), trivial⟩
  change AU _ _ _ _ _ _ _ _
  refine Qf [13] (by kernel_rfl) rfl ⟨.inr (.inr (Xg hN2 rfl rfl rfl rfl rfl (QB 57 1 rfl rfl (by simp [Qg]) (QaZ _ [x]) (QaO _ [x]) rfl) (Qc (Qbk hrs hri (by omega)) rfl rfl rfl) ?_)), trivial⟩
  change AU _ _ _ _ _ _ _ _
  refine Xy 14 rfl (by kernel_rfl) (by kernel_rfl) rfl (Q9 hN2 rfl rfl rfl rfl rfl rfl) ?_; refine yD ?_
  exact Qa rfl (QR (Jg trivial)) ⟨rfl, rfl, (QN (fun _ => rfl) _), trivial⟩
 refine XN ?_
 refine Qi (fun zz : {j : Nat // j ≤ out.length ∧ True} => ⟨[(0, XU nm), (1, rus rs), (5, .own 0 out.length), (6, i64 (i : Nat)), (7, i64 (k : Nat)), (8, XU (K0 rs s x)), (9, bl ((out.take zz.1).any fun t => t == K0 rs s x)), (10, i64 (zz.1 : Nat))], [(0, .arr 22 1 (out.map sv2))], 2⟩) (fun x => out.length - x.1) (⟨0, Nat.zero_le _, by trivial⟩) ?_ ?_
 ·
  exact Qa rfl (QR (QR trivial)) ⟨rfl, rfl, (QN (fun _ => rfl) _), trivial⟩
 rintro ⟨j, hj, gj⟩
 dsimp only
 refine QA ?_; refine zP (Yn rfl rfl rfl YS) ?_; refine QO ?_
 refine zq ?_ ?_ <;> intro h100
 ·
  have ltj : j < out.length := by simpa using h100
  obtain ⟨t, hjt⟩ := Qk ltj
  refine Je ?_
  refine zc 66 ?_ ?_ <;> intro h97
  ·
   have hkn := h97
   refine Wi ?_; refine Qb ?_
   exact ⟨⟨j + 1, ltj, trivial⟩, Qa rfl (QR (Jg ⟨(KG (by rw [QlN hjt]; first | (rw [hkn]; rfl) | (rw [hkn]; simp))), rfl, (QE (by dsimp only; omega)), rfl, trivial⟩)) ⟨rfl, rfl, (QN (fun _ => rfl) _), trivial⟩, by dsimp only; omega⟩
  have hkn := h97
  refine QO ?_; refine uP (JI h97) (JL rfl rfl rfl rfl YS j rfl ltj) ?_
  refine uP (JI h97) (JG rfl rfl rfl YS (Qcn (f := sv2) (fun _ => rfl)) j rfl (Qq hjt) (fun _ => rfl) rfl) ?_; refine KO ?_
  refine uP (JI h97) (Qc (QpT t (K0 rs s x)) rfl rfl rfl) ?_; refine Xz ?_; refine Qb ?_
  exact ⟨⟨j + 1, ltj, trivial⟩, Qa rfl (QR (Jg ⟨(KG (by rw [QlN hjt]; first | (rw [hkn]; rfl) | (rw [hkn]; simp))), rfl, (QE (by dsimp only; omega)), rfl, trivial⟩)) ⟨rfl, rfl, (QN (fun _ => rfl) _), trivial⟩, by dsimp only; omega⟩
 have gej : out.length ≤ j := by simpa using h100
 obtain rfl : j = out.length := by omega
 refine Je ?_
 refine zq ?_ ?_ <;> intro h97
 ·
  have hnew : (out.any fun t => t == K0 rs s x) = false := by have := h97; rw [List.take_length] at this; simpa using this
  have hone := QpR hs hns hnew
  refine QC ?_; refine zP (Qj rfl rfl rfl rfl (by exact rfl) (by decide) (by decide)) ?_
  refine Xb hN rfl rfl rfl YS rfl rfl (by rfl) (by simp [Qg]; omega) rfl rfl rfl rfl ?_
  refine Je ?_; refine Qb ?_
  exact ⟨⟨(k + 1, Qa0 rs i out x), hlt, (hS.one hn hr hio2 hx).1, (hS.one hn hr hio2 hx).2.1, by have := (hS.one hn hr hio2 hx).2.2; dsimp only; omega, by rw [← hrow, QjI hx hb256]⟩, Qa rfl (Jg ⟨(Kq (by dsimp only; first | (rw [hone]; done) | (rw [hone]; simp [Qg]; done))), rfl, rfl, rfl, (QE (by dsimp only; omega)), rfl, trivial⟩) ⟨(Yl (by dsimp only; first | (rw [hone]; done) | (rw [hone, List.map_append]; rfl))), rfl, (QN (fun _ => rfl) _), trivial⟩, by dsimp only; omega⟩
 have hold : (out.any fun t => t == K0 rs s x) = true := by have := h97; rw [List.take_length] at this; simpa using this
 have hone := Qp3 hs hns hold
 refine QA ?_; refine Qb ?_
 exact ⟨⟨(k + 1, Qa0 rs i out x), hlt, (hS.one hn hr hio2 hx).1, (hS.one hn hr hio2 hx).2.1, by have := (hS.one hn hr hio2 hx).2.2; dsimp only; omega, by rw [← hrow, QjI hx hb256]⟩, Qa rfl (Jg ⟨(Kq (by dsimp only; first | (rw [hone]; done) | (rw [hone]; simp [Qg]; done))), rfl, rfl, rfl, (QE (by dsimp only; omega)), rfl, trivial⟩) ⟨(Yl (by dsimp only; first | (rw [hone]; done) | (rw [hone, List.map_append]; rfl))), rfl, (QN (fun _ => rfl) _), trivial⟩, by dsimp only; omega⟩
end Go.Proofs.YtaecccdkjmipeaaGreat
