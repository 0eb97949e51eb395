/-
  Contracts: the reference's clocks: Get, all, of.
-/
import Derived.Test.YthldgioggjpnpaaGreatR23
namespace Go.Proofs.YthldgioggjpnpaaGreat
open Go.RowKit

abbrev encN (x : Int) : Value := .int .i64 x

theorem Rd1.at_ {α : Type} {w : World} {enc : α → Value} {A : Option Addr} {n c : Nat} {l : List α} (h : Rd1 w enc (.slice A n c) l) {j : Nat} (hj : j < n) :
    ∃ b off x, A = some ⟨b, off, none⟩ ∧ b < w.heap.size ∧ l[j]? = some x ∧ w.cell? ⟨b, off + j, none⟩ = some (enc x) := by
  obtain ⟨A', n', c', hv, hl, h1, h2, h3⟩ := h
  injection hv with e1 e2 e3
  subst e1 e2 e3
  obtain ⟨b, off, hA, hb, hc⟩ := h3 (by omega)
  have e := List.getElem?_eq_getElem (show j < l.length by omega)
  exact ⟨b, off, _, hA, hb, e, hc j _ e⟩
theorem Rd1.form {α : Type} {w : World} {enc : α → Value} {v : Value} {l : List α} (h : Rd1 w enc v l) : ∃ A c, v = .slice A l.length c ∧ l.length ≤ c ∧ c ≤ maxLen := by
  obtain ⟨A, n, c, hv, hl, h1, h2, h3⟩ := h
  subst hl
  exact ⟨A, c, hv, h1, h2⟩

set_option maxRecDepth 100000 in
set_option maxHeartbeats 1000000 in
theorem rget_any (v : Value) (ts : List Tk) (p : Int) (w : World) (h : RdT w v ts) (hg : validT ts = true) :
    Calls Tryz.prog 89 #[v, .int .i64 p] w fun e w' => e = .returned (.int .i64 (getT ts p)) ∧ Ext w w' := by
  have H := Lib.hid h
  have HV := Lib.hid hg; clear hg
  obtain ⟨A, n, c, rfl, hl, hnc, hcm, -⟩ := h
  unfold maxLen at hcm
  have HL := Lib.hid hl; clear hl
  go_enter Tryz.func89, Tryz.ntmps89
  go_wp2_with (go_at_call 58; refine (rvalid_any _ _ _ H.out).mono ?_; rintro e w1 ⟨rfl, hE1⟩; rw [HV.out])
  have HE1 := Lib.hid hE1; clear hE1
  go_loopw [5] (fun i wr => ∃ k : Nat, k ≤ n ∧ i = .int .i64 k ∧ getT (ts.drop k) p = getT ts p ∧ Ext w wr) (fun i _ => n - (intOf i).toNat)
  case atStart => exact ⟨0, Nat.zero_le _, rfl, rfl, HE1.out⟩
  case round =>
    obtain ⟨k, hk, rfl, hg, hE⟩ := hrel
    have HG := Lib.hid hg; clear hg
    by_cases hlt : k < n
    · obtain ⟨b, off, t, rfl, hb, ht, c0, c1⟩ := RdT.tick (H.out.ext hE) hlt
      have hd : ts.drop k = t :: ts.drop (k + 1) := by
        obtain ⟨hk', rfl⟩ := List.getElem?_eq_some_iff.1 ht
        exact List.drop_eq_getElem_cons hk'
      have HD := Lib.hid hd; clear hd ht
      obtain ⟨q, m⟩ := t
      dsimp only at c0 c1
      by_cases hq : q = p
      · subst hq
        have e0 : (q == q) = true := by simp
        go_wp2_with (fail)
        go_ret
        refine ⟨?_, hE⟩
        rw [← HG.out, HD.out, getT, if_pos rfl]
        rfl
      · have e0 : (q == p) = false := by simpa using hq
        go_wp2_with (fail)
        go_roundw
        case rel => exact ⟨k + 1, by omega, by go_num, by rw [← HG.out, HD.out, getT, if_neg hq], hE⟩
        case measure => simp [intOf]; omega
    · go_wp2_with (fail)
      go_ret
      refine ⟨?_, hE⟩
      rw [← HG.out, List.drop_of_length_le (by have := HL.out; omega)]
      rfl

def allT (ts : List Tk) (n : Nat) : List Int := (List.range n).map fun (p : Nat) => getT ts (p : Int)
theorem allT_succ (ts : List Tk) (n : Nat) : allT ts (n + 1) = allT ts n ++ [getT ts (n : Int)] := by
  unfold allT; rw [List.range_succ, List.map_append]; rfl
theorem allT_len (ts : List Tk) (n : Nat) : (allT ts n).length = n := by simp [allT]
theorem infI : (Tryz.prog.info? 2).map (fun i => (i.zero, i.size, i.bytes)) = some (some (.int .i64 0), 1, 8) := by kernel_rfl

set_option maxRecDepth 100000 in
set_option maxHeartbeats 1000000 in
theorem rall_any (v : Value) (ts : List Tk) (w : World) (h : RdT w v ts) (hg : validT ts = true) :
    Calls Tryz.prog 59 #[v] w fun e w' => ∃ u, e = .returned u ∧ Own w' w.heap.size 2 encN u (allT ts 64) ∧ Ext w w' := by
  obtain ⟨i0, hi0, hz0, hz1, hz2⟩ := info_parts infI
  have H := Lib.hid h; clear h
  have HV := Lib.hid hg; clear hg
  go_enter Tryz.func59, Tryz.ntmps59
  go_wp2_with (fail)
  go_loopw [3, 4] (fun u i wr => ∃ k : Nat, k ≤ 64 ∧ i = .int .i64 k ∧ Own wr w.heap.size 2 encN u (allT ts k) ∧ Ext w wr) (fun _ i _ => 64 - (intOf i).toNat)
  case atStart => exact ⟨0, Nat.zero_le _, rfl, Own.nil _ _ _ _, Ext.refl _⟩
  case round =>
    obtain ⟨k, hk, rfl, hO, hE⟩ := hrel
    have HO := Lib.hid hO; clear hO
    have HE := Lib.hid hE; clear hE
    by_cases hlt : k < 64
    · obtain ⟨x, hx⟩ : ∃ x, getT ts (k : Int) = x := ⟨_, rfl⟩
      have HX := Lib.hid hx; clear hx
      have HS : Hid (allT ts (k + 1) = allT ts k ++ [x]) := Lib.hid (by rw [allT_succ, HX.out])
      have HK := Lib.hid (allT_len ts k)
      go_wp2_with (first
        | (go_at_call 89; refine (rget_any _ ts (k : Int) _ (H.out.ext HE.out) HV.out).mono ?_; rintro e w1 ⟨rfl, hE1⟩; rw [HX.out]; have HE1 := Lib.hid hE1; clear hE1)
        | (at_builtin; go_must (refine wpList_append_one rfl (.tmp 9) (.tmp 13) 83 rfl 2 i0 _ 8 Tryz.underlying83 hi0 hz0 hz1 hz2 rfl encN w ((HE.out.trans HE1.out).alloc _) _ (allT ts k) rfl (Own.ext (HO.out.ext HE1.out) ((Ext.refl _).alloc _)) w1.heap.size 1 x rfl (cell_new1 w1 _ _) rfl (by rw [HK.out]; unfold maxLen; omega) (by rw [HK.out]; omega) ?_); intro v6 w6 hown6 hE6 hg6; clear hg6; have HO6 := Lib.hid hown6; clear hown6; have HE6 := Lib.hid hE6; clear hE6))
      go_roundw
      case rel => exact ⟨k + 1, by omega, by go_num, by rw [HS.out]; exact HO6.out, HE6.out⟩
      case measure => simp [intOf]; omega
    · obtain rfl : k = 64 := by omega
      go_wp2_with (fail)
      go_ret
      exact ⟨_, rfl, HO.out, HE.out⟩

def ofT : Nat → List Int → List Tk
  | _, [] => []
  | k, x :: r => if 0 < x then ((k : Int), x) :: ofT (k + 1) r else ofT (k + 1) r
theorem ofT_len (k : Nat) (xs : List Int) : (ofT k xs).length ≤ xs.length := by
  induction xs generalizing k with
  | nil => simp [ofT]
  | cons x r ih => rw [ofT]; have := ih (k + 1); split <;> simp <;> omega

set_option maxRecDepth 100000 in
set_option maxHeartbeats 1000000 in
theorem rof_any (v : Value) (xs : List Int) (w : World) (h : Rd1 w encN v xs) (hn64 : xs.length ≤ 64) :
    Calls Tryz.prog 60 #[v] w (OutT w (ofT 0 xs)) := by
  obtain ⟨i0, hi0, hz0, hz1, hz2⟩ := info_parts infTk
  have H := Lib.hid h
  obtain ⟨A, n, c, rfl, hl, hnc, hcm, -⟩ := h
  unfold maxLen at hcm
  rw [hl] at hn64
  have HL := Lib.hid hl; clear hl
  go_enter Tryz.func60, Tryz.ntmps60
  go_wp2_with (fail)
  go_loopw [3, 4] (fun u i wr => ∃ (k : Nat) (o : List Tk), k ≤ n ∧ i = .int .i64 k ∧ OwnN wr w.heap.size 40 2 encT u o ∧ o ++ ofT k (xs.drop k) = ofT 0 xs ∧ o.length ≤ k ∧ Ext w wr) (fun _ i _ => n - (intOf i).toNat)
  case atStart => exact ⟨0, [], Nat.zero_le _, rfl, OwnN.nil _ _ _ _ _, rfl, Nat.le_refl _, Ext.refl _⟩
  case round =>
    obtain ⟨k, o, hk, rfl, hO, ho, hol, hE⟩ := hrel
    have HO := Lib.hid hO; clear hO
    have HOE := Lib.hid ho; clear ho
    have HOL := Lib.hid hol; clear hol
    have HE := Lib.hid hE; clear hE
    by_cases hlt : k < n
    · obtain ⟨b, off, x, rfl, hb, hx, c0⟩ := Rd1.at_ (H.out.ext HE.out) hlt
      have hd : xs.drop k = x :: xs.drop (k + 1) := by
        obtain ⟨hk', rfl⟩ := List.getElem?_eq_some_iff.1 hx
        exact List.drop_eq_getElem_cons hk'
      have HD := Lib.hid hd; clear hd hx
      by_cases hx0 : 0 < x
      · have HS : Hid ((o ++ [((k : Int), x)]) ++ ofT (k + 1) (xs.drop (k + 1)) = ofT 0 xs) := Lib.hid (by
          rw [← HOE.out, HD.out, List.append_assoc]; congr 1; rw [ofT, if_pos hx0]; rfl)
        go_wp2_with (at_builtin; go_must (refine wpList_append_oneN rfl (.tmp 16) (.tmp 23) 37 rfl 40 i0 _ 2 16 Tryz.underlying37 hi0 hz0 hz1 hz2 rfl (by decide) encT (fun _ => rfl) w (HE.out.alloc _) _ o rfl (OwnN.ext HO.out ((Ext.refl _).alloc _)) wr.heap.size 1 ((k : Int), x) rfl (cells_new _ _ _ _ rfl) ?c1 ?c2 ?c3 ?c4))
        case c1 =>
          intro x hx
          simp only [encT, List.mem_cons, List.not_mem_nil, or_false] at hx
          rcases hx with rfl | rfl <;> rfl
        case c2 => have := HOL.out; unfold maxLen; omega
        case c3 => have := HOL.out; omega
        case c4 =>
          intro v' w7 hown7 hE7 hg7
          clear hg7
          have HOWN7 := Lib.hid hown7; clear hown7
          have HE7 := Lib.hid hE7; clear hE7
          go_wp2_with (fail)
          go_roundw
          case rel => exact ⟨k + 1, o ++ [((k : Int), x)], by omega, by go_num, HOWN7.out, HS.out, by have := HOL.out; simp; omega, HE7.out⟩
          case measure => simp [intOf]; omega
      · have HS : Hid (o ++ ofT (k + 1) (xs.drop (k + 1)) = ofT 0 xs) := Lib.hid (by
          rw [← HOE.out, HD.out]; congr 1; conv => rhs; rw [ofT, if_neg hx0])
        go_wp2_with (fail)
        go_roundw
        case rel => exact ⟨k + 1, o, by omega, by go_num, HO.out, HS.out, by have := HOL.out; omega, HE.out⟩
        case measure => simp [intOf]; omega
    · go_wp2_with (fail)
      go_ret
      refine ⟨_, rfl, ?_, HE.out⟩
      rw [← HOE.out, List.drop_of_length_le (by have := HL.out; omega)]
      simpa [ofT] using HO.out
end Go.Proofs.YthldgioggjpnpaaGreat
