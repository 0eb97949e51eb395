/-
  Contracts: finite.all at Flat, Set, Closed; too many numbers
-/
import Derived.Test.YtaecccdkjmipeaaGreatF12
import Derived.Test.YtaecccdkjmipeaaGreatA10
namespace Go.Proofs.YtaecccdkjmipeaaGreat
set_option maxRecDepth 100000
set_option maxHeartbeats 1000000
open Go.RowKit
abbrev Qpc : AV := .p (.slice none 0 0)
def QcE (nm : List Nm) : List Qn := [Qn.zero, .mk 2 [] [] []] ++ nm.map fun s => .mk 1 [s] [] []
theorem Qnx (s : Nm) : Qg 4 1 [i64 1, .sl [[sv s]] none, .sl [] none, .sl [] none] = [Xx (.mk 1 [s] [] [])] := by rw [X3]; rfl
theorem Qic {nm : List Nm} {k : Nat} {s : Nm} (h : nm[k]? = some s) : QcE (nm.take (k + 1)) = QcE (nm.take k) ++ [.mk 1 [s] [] []] := by
 unfold QcE
 rw [List.take_add_one, h, List.map_append, List.append_assoc]; rfl
theorem QfD (nm : List Nm) : (QcE nm).length = nm.length + 2 := by simp [QcE]
theorem QnH (lo hi : Int) (nm : List Nm) (ps : List Qs) (rs : List Ru) (h32 : nm.length ≤ 64) : GV 48 [.agg (QF (.mk 8 lo hi nm ps rs))] (QcE nm) 1 2 := by
 refine JC [2, 3] Tryz.func48 rfl rfl 91 Tryz.ntmps48 (Nat.le_of_ble_eq_true rfl) ?_
 intro E hN
 refine Yd ?_; refine Yd ?_; refine QA ?_
 refine QiN hN rfl rfl rfl rfl (n := 4) rfl (by decide) (by decide) (es := [[i64 0, Qpc, Qpc, Qpc], [i64 2, Qpc, Qpc, Qpc]]) rfl rfl (by intro e he; simp at he; rcases he with rfl | rfl <;> rfl) rfl rfl rfl rfl ?_
 refine QJ ?_
 refine Qu (QpK 1 rfl (es' := [Xm Qn.zero, Xm (.mk 2 [] [] [])]) rfl (by intro e he; simp at he; rcases he with rfl | rfl <;> rfl) rfl) ?_
 refine Xz ?_
 refine Qi (fun x : {k : Nat // k ≤ nm.length ∧ True} => ⟨[(4, .own 1 (QcE (nm.take x.1)).length), (51, XU nm), (52, i64 nm.length), (53, i64 (x.1 : Nat))], [(1, .arr 30 4 ((QcE (nm.take x.1)).map Xx))], 2⟩) (fun x => nm.length - x.1) (⟨0, Nat.zero_le _, by trivial⟩) ?_ ?_
 ·
  exact Qa rfl (Jg ⟨(QE (by rw [List.length_map]; rfl)), rfl, (Xu trivial)⟩) ⟨(Yl (by simp [QcE, X3])), rfl, (Qw _), trivial⟩
 rintro ⟨k, hk, gk⟩
 dsimp only
 refine QA ?_
 refine zq ?_ ?_ <;> intro h21
 rotate_left
 ·
  have gek : nm.length ≤ k := by simpa using h21
  have htk : nm.take k = nm := List.take_of_length_le gek
  rw [htk]
  refine Xz ?_; refine QG ?_
  change (YK _ _).ntt = _ ∧ _
  refine WN rfl ?_ rfl rfl rfl ⟨rfl, rfl, Qw _, trivial⟩
  rfl
 have ltk : k < nm.length := by simpa using h21
 obtain ⟨s, hks⟩ := Qk ltk
 refine QA ?_; refine zP (Qh rfl rfl rfl k rfl _ (Qq hks) rfl) ?_; refine Je ?_
 refine zP (Qj rfl rfl rfl rfl (by exact rfl) (by decide) (by decide)) ?_; refine KO ?_
 refine zP (Qj rfl rfl rfl rfl (by exact rfl) (by decide) (by decide)) ?_
 refine Xb hN rfl rfl rfl (by simp) rfl rfl (by rfl) (by have := QfD (nm.take k); rw [List.length_take] at this; simp [Qg]; omega) rfl rfl rfl rfl ?_
 refine QA ?_; refine Qb ?_
 exact ⟨⟨k + 1, ltk, trivial⟩, Qa rfl ⟨(Kq (by rw [Qic hks]; simp [Qg])), rfl, (Jg ⟨(QE (by dsimp only; omega)), rfl, trivial⟩)⟩ ⟨(Yl (by rw [Qic hks, List.map_append, List.map_cons, List.map_nil, ← Qnx]; rfl)), rfl, (Qw _), trivial⟩, by dsimp only; omega⟩
theorem Qrj (acc : List Nm → Bool) (l : List Nm) (B : Nat) : (X6 acc l B).length ≤ B := by
 unfold X6
 rw [List.length_map]
 exact Nat.le_trans (List.length_filter_le _ _) (by simp)
theorem QfG {acc : List Nm → Bool} {l : List Nm} (h : l.length ≤ 8) : (X6 acc l (2 ^ l.length)).length ≤ 256 := Nat.le_trans (Qrj _ _ _) (Nat.pow_le_pow_right (by decide) h)
theorem QpI (lo hi : Int) (nm : List Nm) (ps : List Qs) (rs : List Ru) (h8 : nm.length ≤ 8) : GV 48 [.agg (QF (.mk 4 lo hi nm ps rs))] (X6 (fun _ => true) nm (2 ^ nm.length)) 1 2 := by
 refine JC [2, 3] Tryz.func48 rfl rfl 91 Tryz.ntmps48 (Nat.le_of_ble_eq_true rfl) ?_
 intro E hN
 refine Yd ?_; refine Qil ?_
 refine zP (Xc (b := false) rfl rfl rfl (by simp [show (Qs.mk 4 lo hi nm ps rs).nm = nm from rfl]; omega)) ?_
 refine Xz ?_
 refine YH hN [] (QnA nm (by omega) (acc := fun _ => true) (fun s => Qtn s) (QfG h8)) (.fn _ _ _ _ rfl rfl) rfl rfl rfl trivial rfl ⟨WV (Qp _), trivial⟩ rfl (Hn := [(1, .arr 30 4 ((X6 (fun _ => true) nm (2 ^ nm.length)).map Xx))]) (YF (Qp _)) rfl rfl rfl rfl rfl rfl ?_
 refine QA ?_; refine QG ?_
 change (YK _ _).ntt = _ ∧ _
 refine WN rfl ?_ rfl rfl rfl ⟨rfl, rfl, Qw _, trivial⟩
 rfl
theorem QmN (lo hi : Int) (nm : List Nm) (ps : List Qs) (rs : List Ru) (h8 : 8 < nm.length) : FC Tryz.prog 48 [.agg (QF (.mk 4 lo hi nm ps rs))] (.tup [.sl [] none, bl false]) := by
 refine Qd [2, 3] Tryz.func48 rfl rfl 91 Tryz.ntmps48 (Nat.le_of_ble_eq_true rfl) ?_
 intro E hN
 refine Yd ?_; refine Qil ?_
 refine zP (Xc (b := true) rfl rfl rfl (by simp [show (Qs.mk 4 lo hi nm ps rs).nm = nm from rfl]; omega)) ?_
 refine Je ?_; refine zQ ?_
 rfl
theorem QjV (lo hi : Int) (nm : List Nm) (ps : List Qs) (rs : List Ru) (h12 : nm.length ≤ 12) (h256 : (X6 (Xf rs) nm (2 ^ nm.length)).length ≤ 256) : GV 48 [.agg (QF (.mk 10 lo hi nm ps rs))] (X6 (Xf rs) nm (2 ^ nm.length)) 1 2 := by
 refine JC [2, 3] Tryz.func48 rfl rfl 91 Tryz.ntmps48 (Nat.le_of_ble_eq_true rfl) ?_
 intro E hN
 refine Yd ?_; refine Qis ?_; refine Qu (J2 1 0 rfl rfl rfl rfl) ?_; refine QC ?_; refine zP (Qec rfl rfl) ?_
 refine YH hN [] (Qmi nm h12 (acc := Xf rs) (fun s => Qo4 (.mk 10 lo hi nm ps rs) s) h256) (.fn _ _ _ _ rfl rfl) rfl rfl rfl trivial rfl ⟨WV (Qp _), trivial⟩ rfl (Hn := [(1, .arr 30 4 ((X6 (Xf rs) nm (2 ^ nm.length)).map Xx))]) (YF (Qp _)) rfl rfl rfl rfl rfl rfl ?_
 refine QA ?_; refine QG ?_
 change (YK _ _).ntt = _ ∧ _
 refine WN rfl ?_ rfl rfl rfl ⟨rfl, rfl, Qw _, trivial⟩
 rfl
theorem Qit (lo hi : Int) (nm : List Nm) (ps : List Qs) (rs : List Ru) (h12 : nm.length ≤ 12) (h256 : 256 < (X6 (Xf rs) nm (2 ^ nm.length)).length) : FC Tryz.prog 48 [.agg (QF (.mk 10 lo hi nm ps rs))] (.tup [.sl [] none, bl false]) := by
 refine Qd [2, 3] Tryz.func48 rfl rfl 91 Tryz.ntmps48 (Nat.le_of_ble_eq_true rfl) ?_
 intro E hN
 refine Yd ?_; refine Qis ?_; refine Qu (J2 1 0 rfl rfl rfl rfl) ?_; refine QC ?_; refine zP (Qec rfl rfl) ?_
 refine zP (Qc (QjD nm h12 (acc := Xf rs) (fun s => Qo4 (.mk 10 lo hi nm ps rs) s) h256) rfl rfl rfl) ?_; refine QJ ?_
 refine zQ ?_
 rfl
theorem Qf0 (lo hi : Int) (h1 : 256 ≤ hi - lo) (h3 : -1000000000 ≤ lo) (h4 : hi ≤ 1000000000) : FC Tryz.prog 69 [i64 lo, i64 hi] (.tup [.sl [] none, bl false]) := by
 refine Qd [4, 5] Tryz.func69 rfl rfl 24 Tryz.ntmps69 (Nat.le_of_ble_eq_true rfl) ?_
 intro E hN
 refine XN ?_; refine zP (WJ rfl rfl rfl (by omega)) ?_
 refine zP (Xc (b := true) rfl rfl rfl (by simp; omega)) ?_
 refine Je ?_; refine zQ ?_
 rfl
theorem Qmm (lo hi : Int) (nm : List Nm) (ps : List Qs) (rs : List Ru) (h1 : 256 ≤ hi - lo) (h3 : -1000000000 ≤ lo) (h4 : hi ≤ 1000000000) : FC Tryz.prog 48 [.agg (QF (.mk 2 lo hi nm ps rs))] (.tup [.sl [] none, bl false]) := by
 refine Qd [2, 3] Tryz.func48 rfl rfl 91 Tryz.ntmps48 (Nat.le_of_ble_eq_true rfl) ?_
 intro E hN
 refine Yd ?_; refine XN ?_; refine zP (Qc (Qf0 lo hi h1 h3 h4) rfl rfl rfl) ?_; refine QJ ?_; refine zQ ?_
 rfl
theorem Qnn (lo hi : Int) (nm : List Nm) (ps : List Qs) (rs : List Ru) (h1 : 256 ≤ hi - lo) (h3 : -1000000000 ≤ lo) (h4 : hi ≤ 1000000000) : FC Tryz.prog 48 [.agg (QF (.mk 3 lo hi nm ps rs))] (.tup [.sl [] none, bl false]) := by
 refine Qd [2, 3] Tryz.func48 rfl rfl 91 Tryz.ntmps48 (Nat.le_of_ble_eq_true rfl) ?_
 intro E hN
 refine Yd ?_; refine Wi ?_; refine zP (Qc (Qf0 lo hi h1 h3 h4) rfl rfl rfl) ?_; refine QJ ?_; refine zQ ?_
 rfl
theorem Qnj (lo hi : Int) (nm : List Nm) (ps : List Qs) (rs : List Ru) (N : Nat) (h1 : hi - lo + 1 = (N : Int)) (h2 : N ≤ 256) (h3 : -1000000000 ≤ lo) (h4 : hi ≤ 1000000000) : GV 48 [.agg (QF (.mk 2 lo hi nm ps rs))] (Y2 lo N) 1 2 := by
 refine JC [2, 3] Tryz.func48 rfl rfl 91 Tryz.ntmps48 (Nat.le_of_ble_eq_true rfl) ?_
 intro E hN
 refine Yd ?_; refine XN ?_
 refine YH hN [] (QaP lo hi N h1 h2 h3 h4) (.fn _ _ _ _ rfl rfl) rfl rfl rfl trivial rfl ⟨WV (Qp _), trivial⟩ rfl (Hn := [(1, .arr 30 4 ((Y2 lo N).map Xx))]) (YF (Qp _)) rfl rfl rfl rfl rfl rfl ?_
 refine QA ?_; refine QG ?_
 change (YK _ _).ntt = _ ∧ _
 refine WN rfl ?_ rfl rfl rfl ⟨rfl, rfl, Qw _, trivial⟩
 rfl
theorem QnB (lo hi : Int) (nm : List Nm) (ps : List Qs) (rs : List Ru) (N : Nat) (h1 : hi - lo + 1 = (N : Int)) (h2 : N ≤ 256) (h3 : -1000000000 ≤ lo) (h4 : hi ≤ 1000000000) : GV 48 [.agg (QF (.mk 3 lo hi nm ps rs))] (Y2 lo N) 1 2 := by
 refine JC [2, 3] Tryz.func48 rfl rfl 91 Tryz.ntmps48 (Nat.le_of_ble_eq_true rfl) ?_
 intro E hN
 refine Yd ?_; refine Wi ?_
 refine YH hN [] (QaP lo hi N h1 h2 h3 h4) (.fn _ _ _ _ rfl rfl) rfl rfl rfl trivial rfl ⟨WV (Qp _), trivial⟩ rfl (Hn := [(1, .arr 30 4 ((Y2 lo N).map Xx))]) (YF (Qp _)) rfl rfl rfl rfl rfl rfl ?_
 refine QA ?_; refine QG ?_
 change (YK _ _).ntt = _ ∧ _
 refine WN rfl ?_ rfl rfl rfl ⟨rfl, rfl, Qw _, trivial⟩
 rfl
theorem Qmj (lo hi : Int) (nm : List Nm) (ps : List Qs) (rs : List Ru) : GV 48 [.agg (QF (.mk 1 lo hi nm ps rs))] (Y2 0 2) 1 2 := by
 refine JC [2, 3] Tryz.func48 rfl rfl 91 Tryz.ntmps48 (Nat.le_of_ble_eq_true rfl) ?_
 intro E hN
 refine QjA ?_
 refine YH hN [] (QaP 0 1 2 rfl (by decide) (by decide) (by decide)) (.fn _ _ _ _ rfl rfl) rfl rfl rfl trivial rfl ⟨WV (Qp _), trivial⟩ rfl (Hn := [(1, .arr 30 4 ((Y2 0 2).map Xx))]) (YF (Qp _)) rfl rfl rfl rfl rfl rfl ?_
 refine QA ?_; refine QG ?_
 change (YK _ _).ntt = _ ∧ _
 refine WN rfl ?_ rfl rfl rfl ⟨rfl, rfl, Qw _, trivial⟩
 rfl
end Go.Proofs.YtaecccdkjmipeaaGreat
