/-
  Contracts: clock.Merge, Minus, Compare, Get, Inc at valid clocks.
-/
import Derived.Test.YthldgioggjpnpaaGreatR2
namespace Go.Proofs.YthldgioggjpnpaaGreat
open Go.RowKit

def getT : List Tk → Int → Int
  | [], _ => 0
  | t :: r, p => if t.1 = p then t.2 else getT r p

def maxF (m n : Int) : Int := max m n
def minusF (m n : Int) : Int := if n < m then m else 0

theorem merge1_any (m n : Int) (w : World) : Calls Tryz.prog 67 #[.int .i64 m, .int .i64 n] w fun e w' => e = .returned (.int .i64 (maxF m n)) ∧ w = w' := by
  go_enter Tryz.func67, Tryz.ntmps67
  go_wp2
  all_goals go_ret
  · exact ⟨by rw [maxF, Int.max_eq_right (by omega)]; rfl, rfl⟩
  · exact ⟨by rw [maxF, Int.max_eq_left (by omega)]; rfl, rfl⟩
theorem minus1_any (m n : Int) (w : World) : Calls Tryz.prog 134 #[.int .i64 m, .int .i64 n] w fun e w' => e = .returned (.int .i64 (minusF m n)) ∧ w = w' := by
  go_enter Tryz.func134, Tryz.ntmps134
  go_wp2
  all_goals go_ret
  · have h : n < m := by assumption
    exact ⟨by rw [minusF, if_pos h]; rfl, rfl⟩
  · exact ⟨by rw [minusF, if_neg (by omega)]; rfl, rfl⟩
theorem merge1_at : ChooseAt Tryz.prog 67 maxF := ⟨fun _ _ => by kernel_rfl, fun W m n => merge1_any m n W⟩
theorem minus1_at : ChooseAt Tryz.prog 134 minusF := ⟨fun _ _ => by kernel_rfl, fun W m n => minus1_any m n W⟩

def OutT (w0 : World) (o : List Tk) (e : Ending) (w' : World) : Prop := ∃ v, e = .returned v ∧ OwnN w' w0.heap.size 40 2 encT v o ∧ Ext w0 w'

theorem merge_any (va vb : Value) (a b : List Tk) (w : World) (ha : RdT w va a) (hb : RdT w vb b) (ga : validT a = true) (gb : validT b = true) :
    Calls Tryz.prog 44 #[va, vb] w (OutT w (walkT maxF a b)) := by
  have H := cwalk_any va vb _ maxF a b w ha hb merge1_at ga gb
  clear ha hb ga gb
  go_enter Tryz.func44, Tryz.ntmps44
  go_wp2_with (go_at_call 66; refine H.mono ?_; rintro e w1 ⟨v, rfl, hO, hE⟩; have HO := Lib.hid hO; clear hO)
  go_ret
  exact ⟨v, rfl, HO.out, hE⟩
theorem minus_any (va vb : Value) (a b : List Tk) (w : World) (ha : RdT w va a) (hb : RdT w vb b) (ga : validT a = true) (gb : validT b = true) :
    Calls Tryz.prog 103 #[va, vb] w (OutT w (walkT minusF a b)) := by
  have H := cwalk_any va vb _ minusF a b w ha hb minus1_at ga gb
  clear ha hb ga gb
  go_enter Tryz.func103, Tryz.ntmps103
  go_wp2_with (go_at_call 66; refine H.mono ?_; rintro e w1 ⟨v, rfl, hO, hE⟩; have HO := Lib.hid hO; clear hO)
  go_ret
  exact ⟨v, rfl, HO.out, hE⟩

def cmpT (a b : List Tk) : Int :=
  if (walkT minusF a b).length = 0 then (if (walkT minusF b a).length = 0 then 0 else 1)
  else (if (walkT minusF b a).length = 0 then 2 else 3)

theorem OwnN.up {α : Type} {w : World} {base base' : Nat} {t : TypeId} {k : Nat} {enc : α → List Value} {v : Value} {l : List α} (h : OwnN w base t k enc v l) (hb : base' ≤ base) : OwnN w base' t k enc v l := by
  obtain ⟨h1, h2⟩ := h
  refine ⟨h1, ?_⟩
  rcases h2 with h2 | ⟨g, cap, cur, hv, hg, r⟩
  · exact .inl h2
  · exact .inr ⟨g, cap, cur, hv, Nat.le_trans hb hg, r⟩
theorem OwnN.form {α : Type} {w : World} {base : Nat} {t : TypeId} {k : Nat} {enc : α → List Value} {v : Value} {l : List α} (h : OwnN w base t k enc v l) : ∃ A c, v = .slice A l.length c := by
  rcases h.2 with ⟨rfl, hn⟩ | ⟨g, cap, cur, rfl, _⟩
  · exact ⟨_, _, by rw [hn]⟩
  · exact ⟨_, _, rfl⟩

set_option maxRecDepth 100000 in
set_option maxHeartbeats 1000000 in
theorem ccompare_any (va vb : Value) (a b : List Tk) (w : World) (ha : RdT w va a) (hb : RdT w vb b) (ga : validT a = true) (gb : validT b = true) :
    Calls Tryz.prog 70 #[va, vb] w fun e w' => e = .returned (.int .i64 (cmpT a b)) ∧ Ext w w' := by
  have HA := Lib.hid ha; clear ha
  have HB := Lib.hid hb; clear hb
  have GA := Lib.hid ga; clear ga
  have GB := Lib.hid gb; clear gb
  obtain ⟨x, hx⟩ : ∃ x, (walkT minusF a b).length = x := ⟨_, rfl⟩
  obtain ⟨y, hy⟩ : ∃ y, (walkT minusF b a).length = y := ⟨_, rfl⟩
  have HC : Hid (cmpT a b = if x = 0 then (if y = 0 then 0 else 1) else (if y = 0 then 2 else 3)) := Lib.hid (by rw [cmpT, hx, hy])
  have HX := Lib.hid hx; clear hx
  have HY := Lib.hid hy; clear hy
  have TK1 : True := trivial
  have TK2 : True := trivial
  go_enter Tryz.func70, Tryz.ntmps70
  go_wp2_with (first
    | (go_at_call 55; clear TK1; refine (cvalid_any va a _ HA.out).mono ?_; rintro e w1 ⟨rfl, hE1⟩; rw [GA.out])
    | (go_at_call 55; refine (cvalid_any vb b _ (HB.out.ext hE1)).mono ?_; rintro e w2 ⟨rfl, hE2⟩; rw [GB.out]; have HE2 := Lib.hid (hE1.trans hE2); clear hE1 hE2)
    | (go_at_call 103; clear TK2; refine (minus_any va vb a b _ (HA.out.ext HE2.out) (HB.out.ext HE2.out) GA.out GB.out).mono ?_; rintro e w3 ⟨v3, rfl, hO3, hE3⟩; have HE3 := Lib.hid (HE2.out.trans hE3); clear hE3; obtain ⟨A3, c3, rfl⟩ := hO3.form; clear hO3; rw [HX.out])
    | (go_at_call 103; refine (minus_any vb va b a _ (HB.out.ext HE3.out) (HA.out.ext HE3.out) GB.out GA.out).mono ?_; rintro e w4 ⟨v4, rfl, hO4, hE4⟩; have HE4 := Lib.hid (HE3.out.trans hE4); clear hE4; obtain ⟨A4, c4, rfl⟩ := hO4.form; clear hO4; rw [HY.out]))
  all_goals go_ret
  all_goals refine ⟨?_, HE4.out⟩
  all_goals rw [HC.out]
  all_goals (by_cases x0 : x = 0 <;> by_cases y0 : y = 0 <;> first | (simp only [x0, y0, if_true, if_false]; rfl) | (exfalso; simp_all))

set_option maxRecDepth 100000 in
set_option maxHeartbeats 1000000 in
theorem cget_any (v : Value) (ts : List Tk) (p : Int) (w : World) (h : RdT w v ts) (hg : validT ts = true) :
    Calls Tryz.prog 56 #[v, .int .i64 p] w fun e w' => e = .returned (.int .i64 (getT ts p)) ∧ Ext w w' := by
  have H := Lib.hid h
  have HV := Lib.hid hg; clear hg
  obtain ⟨A, n, c, rfl, hl, hnc, hcm, -⟩ := h
  unfold maxLen at hcm
  have HL := Lib.hid hl; clear hl
  go_enter Tryz.func56, Tryz.ntmps56
  go_wp2_with (go_at_call 55; refine (cvalid_any _ _ _ H.out).mono ?_; rintro e w1 ⟨rfl, hE1⟩; rw [HV.out])
  have HE1 := Lib.hid hE1; clear hE1
  go_loopw [12] (fun i wr => ∃ k : Nat, k ≤ n ∧ i = .int .i64 k ∧ getT (ts.drop k) p = getT ts p ∧ Ext w wr) (fun i _ => n - (intOf i).toNat)
  case atStart => exact ⟨0, Nat.zero_le _, rfl, rfl, HE1.out⟩
  case round =>
    obtain ⟨k, hk, rfl, hg, hE⟩ := hrel
    have HG := Lib.hid hg; clear hg
    by_cases hlt : k < n
    · obtain ⟨b, off, t, rfl, hb, ht, c0, c1⟩ := RdT.tick (H.out.ext hE) hlt
      have hd : ts.drop k = t :: ts.drop (k + 1) := by
        obtain ⟨hk', rfl⟩ := List.getElem?_eq_some_iff.1 ht
        exact List.drop_eq_getElem_cons hk'
      have HD := Lib.hid hd; clear hd ht
      obtain ⟨q, m⟩ := t
      dsimp only at c0 c1
      have hw : b < (wr.alloc (.cells #[.int .i64 0, .int .i64 0] 40)).heap.size := by simp; omega
      by_cases hq : q = p
      · subst hq
        have e0 : (q == q) = true := by simp
        go_wp2_with (fail)
        go_ret
        refine ⟨?_, hE.alloc _⟩
        rw [← HG.out, HD.out, getT, if_pos rfl]
        rfl
      · have e0 : (q == p) = false := by simpa using hq
        go_wp2_with (fail)
        go_roundw
        case rel => exact ⟨k + 1, by omega, by go_num, by rw [← HG.out, HD.out, getT, if_neg hq], hE.alloc _⟩
        case measure => simp [intOf]; omega
    · go_wp2_with (fail)
      go_ret
      refine ⟨?_, hE⟩
      rw [← HG.out, List.drop_of_length_le (by have := HL.out; omega)]
      rfl

set_option maxRecDepth 100000 in
set_option maxHeartbeats 1000000 in
theorem cinc_any (v : Value) (ts : List Tk) (p : Int) (w : World) (h : RdT w v ts) (hg : validT ts = true) (p0 : 0 ≤ p) (p1 : p ≤ 63) (hb0 : 0 ≤ getT ts p) (hb1 : getT ts p ≤ 1000000000000000) :
    Calls Tryz.prog 37 #[v, .int .i64 p] w fun e w' =>
      (getT ts p = 1000000000000000 ∧ e = .returned (.tuple #[.slice none 0 0, .int .i64 6]) ∧ Ext w w') ∨
      (getT ts p ≠ 1000000000000000 ∧ ∃ v', e = .returned (.tuple #[v', .int .i64 0]) ∧ OwnN w' w.heap.size 40 2 encT v' (walkT maxF ts [(p, getT ts p + 1)]) ∧ Ext w w') := by
  have H := Lib.hid h; clear h
  have HV := Lib.hid hg; clear hg
  obtain ⟨x, hx⟩ : ∃ x, getT ts p = x := ⟨_, rfl⟩
  rw [hx] at hb0 hb1 ⊢
  have HX := Lib.hid hx; clear hx
  have hw1 : IntKind.i64.wrap (x + 1) = x + 1 := IntWalk.i64_in _ (by omega)
  by_cases hm : x = 1000000000000000
  · subst hm
    have e0 : ((1000000000000000 : Int) == 1000000000000000) = true := by decide
    go_enter Tryz.func37, Tryz.ntmps37
    go_wp2_with (first
      | (go_at_call 55; refine (cvalid_any _ _ _ H.out).mono ?_; rintro e w1 ⟨rfl, hE1⟩; rw [HV.out]; have HE1 := Lib.hid hE1; clear hE1)
      | (go_at_call 56; refine (cget_any _ _ p _ (H.out.ext HE1.out) HV.out).mono ?_; rintro e w2 ⟨rfl, hE2⟩; rw [HX.out]; have HE2 := Lib.hid (HE1.out.trans hE2); clear hE2))
    go_ret2
    exact .inl ⟨by first | trivial | rfl, rfl, HE2.out⟩
  · have e0 : (x == 1000000000000000) = false := by simpa using hm
    have hrd1 : ∀ (W : World), Ext w W → RdT (W.alloc (.cells #[.int .i64 p, .int .i64 (x + 1)] 40)) (.slice (some ⟨W.heap.size, 0, none⟩) 1 1) [(p, x + 1)] := fun W _ =>
      ⟨_, _, _, rfl, rfl, Nat.le_refl _, by unfold maxLen; omega, fun _ => ⟨W.heap.size, 0, rfl, by simp, fun j y hj i u hu => by
        have hj0 : j = 0 := by have := (List.getElem?_eq_some_iff.1 hj).1; simp at this; exact this
        subst hj0
        simp only [List.getElem?_cons_zero, Option.some.injEq] at hj
        subst hj
        have := cells_new W [.int .i64 p, .int .i64 (x + 1)] 40 W.heap.size rfl i u hu
        simpa using this⟩⟩
    have HR1 := Lib.hid hrd1; clear hrd1
    have HG1 : Hid (validT [(p, x + 1)] = true) := Lib.hid (by simp [validT, goodF, okTk]; omega)
    go_enter Tryz.func37, Tryz.ntmps37
    go_wp2_with (first
      | (go_at_call 55; refine (cvalid_any _ _ _ H.out).mono ?_; rintro e w1 ⟨rfl, hE1⟩; rw [HV.out]; have HE1 := Lib.hid hE1; clear hE1)
      | (go_at_call 56; refine (cget_any _ _ p _ (H.out.ext HE1.out) HV.out).mono ?_; rintro e w2 ⟨rfl, hE2⟩; rw [HX.out]; have HE2 := Lib.hid (HE1.out.trans hE2); clear hE2)
      | (go_at_call 44; refine (merge_any _ _ ts [(p, x + 1)] _ (H.out.ext (HE2.out.alloc _)) (HR1.out _ HE2.out) HV.out HG1.out).mono ?_; rintro e w3 ⟨v3, rfl, hO3, hE3⟩; have HE3 := Lib.hid ((HE2.out.alloc _).trans hE3); clear hE3; have HO3 := Lib.hid hO3; clear hO3))
    go_ret2
    exact .inr ⟨hm, _, rfl, HO3.out.up (by have := HE2.out.size; simp; omega), HE3.out⟩

end Go.Proofs.YthldgioggjpnpaaGreat
