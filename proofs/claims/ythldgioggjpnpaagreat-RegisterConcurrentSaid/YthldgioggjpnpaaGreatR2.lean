/-
  Contracts: clock.walk with a function that chooses; Merge, Minus.
-/
import Derived.Test.YthldgioggjpnpaaGreatR1
namespace Go.Proofs.YthldgioggjpnpaaGreat
open Go.RowKit

def ckT (p k : Int) : List Tk := if 0 < k then [(p, k)] else []
def walkT (f : Int → Int → Int) (a b : List Tk) : List Tk :=
  match a, b with
  | [], [] => []
  | t :: a', [] => ckT t.1 (f t.2 0) ++ walkT f a' []
  | [], u :: b' => ckT u.1 (f 0 u.2) ++ walkT f [] b'
  | t :: a', u :: b' =>
    if t.1 < u.1 then ckT t.1 (f t.2 0) ++ walkT f a' (u :: b')
    else if u.1 < t.1 then ckT u.1 (f 0 u.2) ++ walkT f (t :: a') b'
    else ckT t.1 (f t.2 u.2) ++ walkT f a' b'
termination_by a.length + b.length

theorem goodF_len (last : Int) (ts : List Tk) (h : goodF last ts = true) : (ts.length : Int) ≤ max (63 - last) 0 := by
  induction ts generalizing last with
  | nil => simp; omega
  | cons t r ih =>
    rw [goodF_cons, Bool.and_eq_true] at h
    have h2 := ih _ h.2
    have h1 := h.1
    simp only [okTk, Bool.and_eq_true, decide_eq_true_eq] at h1
    simp only [List.length_cons]
    omega
theorem validT_len (ts : List Tk) (h : validT ts = true) : ts.length ≤ 64 := by
  have := goodF_len (-1) ts h
  omega
theorem infTk : (Tryz.prog.info? 40).map (fun i => (i.zero, i.size, i.bytes)) = some (some (.agg #[.int .i64 0, .int .i64 0]), 2, 16) := by kernel_rfl

/-- a function value on two numbers -/
def ChooseAt (P : Program) (g : Nat) (f : Int → Int → Int) : Prop :=
  (∀ (args : Array Value) (w : World), (callFunc g args).run P w = .ok (.enter g args) w) ∧ ∀ W (m n : Int), Calls P g #[.int .i64 m, .int .i64 n] W fun e W' => e = .returned (.int .i64 (f m n)) ∧ W = W'

theorem RdN.tail_ {α : Type} {w : World} {k : Nat} {enc : α → List Value} {b off n c : Nat} {x : α} {l : List α} (h : RdN w k enc (.slice (some ⟨b, off, none⟩) n c) (x :: l)) (A : Option Addr) (hA : c ≠ 1 → A = some ⟨b, off + k, none⟩) :
    RdN w k enc (.slice A (n - 1) (c - 1)) l := by
  obtain ⟨hl, h1, h2, h3⟩ := h.open_
  have hn : 0 < n := by simp at hl; omega
  by_cases hc : c = 1
  · subst hc
    obtain rfl : n = 1 := by omega
    have : l = [] := by simp at hl; exact hl
    exact RdN.none_ this (Nat.zero_le _)
  · rw [hA hc]
    have := h.suf (m := 1) hn
    rw [Nat.one_mul] at this
    exact this

set_option maxRecDepth 100000 in
set_option maxHeartbeats 2000000 in
theorem cwalk_any (va vb : Value) (g : Nat) (f : Int → Int → Int) (a b : List Tk) (w : World) (ha : RdT w va a) (hb : RdT w vb b) (hf : ChooseAt Tryz.prog g f) (ga : validT a = true) (gb : validT b = true) :
    Calls Tryz.prog 66 #[va, vb, .func (.func g) #[] #[]] w fun e w' => ∃ v, e = .returned v ∧ OwnN w' w.heap.size 40 2 encT v (walkT f a b) ∧ Ext w w' := by
  obtain ⟨i0, hi0, hz0, hz1, hz2⟩ := info_parts infTk
  have HA := Lib.hid ha; clear ha
  have HB := Lib.hid hb; clear hb
  have HLA := Lib.hid (validT_len a ga)
  have HLB := Lib.hid (validT_len b gb)
  have GA := Lib.hid ga; clear ga
  have GB := Lib.hid gb; clear gb
  obtain ⟨hen, hcall⟩ := hf
  have HF := Lib.hid hcall; clear hcall
  have TK1 : True := trivial
  go_enter Tryz.func66, Tryz.ntmps66
  go_wp2_with (first | (go_at_call 55; clear TK1; refine (cvalid_any va a _ HA.out).mono ?_; rintro e w1 ⟨rfl, hE1⟩; rw [GA.out]) | (go_at_call 55; refine (cvalid_any vb b _ (HB.out.ext hE1)).mono ?_; rintro e w2 ⟨rfl, hE2⟩; rw [GB.out]))
  have HE2 := Lib.hid (hE1.trans hE2); clear hE1 hE2
  go_loopw [0, 1, 7] (fun v0 v1 v7 wr => ∃ (a' b' o : List Tk), RdT w v0 a' ∧ RdT w v1 b' ∧ OwnN wr w.heap.size 40 2 encT v7 o ∧ o ++ walkT f a' b' = walkT f a b ∧ Ext w wr ∧ o.length + a'.length + b'.length ≤ 128) (fun v0 v1 _ _ => lenV v0 + lenV v1)
  case atStart => exact ⟨a, b, [], HA.out, HB.out, OwnN.nil _ _ _ _ _, rfl, HE2.out, by have := HLA.out; have := HLB.out; simp; omega⟩
  case round =>
    obtain ⟨a', b', o, hra, hrb, hO, hw, hE, hlen⟩ := hrel
    have HRA := Lib.hid hra
    have HRB := Lib.hid hrb
    have HO := Lib.hid hO; clear hO
    have HW := Lib.hid hw; clear hw
    have HE := Lib.hid hE; clear hE
    have HLEN := Lib.hid hlen; clear hlen
    obtain ⟨A, na, ca, rfl, hla, hnca, hcma, hcella⟩ := hra
    obtain ⟨B, nb, cb, rfl, hlb, hncb, hcmb, hcellb⟩ := hrb
    unfold maxLen at hcma hcmb
    cases a' with
    | nil =>
      obtain rfl : na = 0 := by simpa using hla.symm
      cases b' with
      | nil =>
        obtain rfl : nb = 0 := by simpa using hlb.symm
        clear hcella hcellb hla hlb
        go_wp2_with (fail)
        go_ret
        refine ⟨_, rfl, ?_, HE.out⟩
        have h := HW.out
        rw [walkT, List.append_nil] at h
        rw [← h]
        exact HO.out
      | cons u b'' =>
        have hnb : 0 < nb := by simp at hlb; omega
        obtain ⟨bb, ob, u', rfl, hbb, hu, d0, d1⟩ := RdT.tick (HRB.out.ext HE.out) hnb
        obtain rfl : u = u' := by simpa using hu
        clear hu
        have HTB := Lib.hid (HRB.out.tail_)
        have HTB1 : Hid (cb = 1 → ∀ A, RdN w 2 encT (.slice A (nb - 1) 0) b'') := Lib.hid (fun h A => by have := HRB.out.tail_ A (fun h' => absurd h h'); rw [h] at this; exact this)
        obtain ⟨q, n⟩ := u
        simp only [Nat.zero_mul, Nat.add_zero] at d0 d1
        clear hcella hcellb
        have e1 : ((nb : Int) == 0) = false := by simp; omega
        go_wp2_with (fail)
        go_quiet (fail)
        go_wp2_with (fail)
        go_quiet (fail)
        go_wp2_with (fail)
        go_quiet (fail)
        go_wp2_with (fail)
        all_goals
          refine (HF.out _ 0 n).mono ?_
          rintro e w' ⟨rfl, rfl⟩
          obtain ⟨kk, hkk⟩ : ∃ kk, f 0 n = kk := ⟨_, rfl⟩
          rw [hkk]
          have HKK := Lib.hid hkk; clear hkk
          by_cases hk : 0 < kk
          · go_wp2_with (at_builtin; go_must (refine wpList_append_oneN rfl (.tmp 105) (.tmp 109) 37 rfl 40 i0 _ 2 16 Tryz.underlying37 hi0 hz0 hz1 hz2 rfl (by decide) encT (fun _ => rfl) w ((HE.out.drewN _).alloc _) _ o rfl (OwnN.ext HO.out (((Ext.refl _).drewN _).alloc _)) wr.heap.size 1 (q, kk) rfl (cells_new _ _ _ _ rfl) ?c1 ?c2 ?c3 ?c4))
            case c1 =>
              intro x hx
              simp only [encT, List.mem_cons, List.not_mem_nil, or_false] at hx
              rcases hx with rfl | rfl <;> rfl
            case c2 => have := HLEN.out; unfold maxLen; omega
            case c3 => have := HLEN.out; omega
            case c4 =>
              intro v' w7 hown7 hE7 hg7
              clear hg7
              have HOWN7 := Lib.hid hown7; clear hown7
              have HE7 := Lib.hid hE7; clear hE7
              go_wp2_with (fail)
              go_roundw
              case rel =>
                refine ⟨[], b'', o ++ [(q, kk)], HRA.out, (by first | exact HTB.out _ (fun _ => rfl) | exact HTB1.out (by assumption) _), HOWN7.out, ?_, HE7.out, by have := HLEN.out; simp at this ⊢; omega⟩
                rw [← HW.out]
                rw [walkT]
                rw [HKK.out, ckT, if_pos hk, List.append_assoc]
              case measure => simp [lenV]; omega
          · go_wp2_with (fail)
            go_roundw
            case rel =>
              refine ⟨[], b'', o, HRA.out, (by first | exact HTB.out _ (fun _ => rfl) | exact HTB1.out (by assumption) _), OwnN.ext HO.out ((Ext.refl _).drewN _), ?_, HE.out.drewN _, by have := HLEN.out; simp at this ⊢; omega⟩
              rw [← HW.out]
              rw [walkT]
              rw [HKK.out, ckT, if_neg (by omega), List.nil_append]
            case measure => simp [lenV]; omega
    | cons t a'' =>
      have hna : 0 < na := by simp at hla; omega
      obtain ⟨ba, oa, t', rfl, hba, ht, c0, c1⟩ := RdT.tick (HRA.out.ext HE.out) hna
      obtain rfl : t = t' := by simpa using ht
      clear ht
      have HTA := Lib.hid (HRA.out.tail_)
      have HTA1 : Hid (ca = 1 → ∀ A, RdN w 2 encT (.slice A (na - 1) 0) a'') := Lib.hid (fun h A => by have := HRA.out.tail_ A (fun h' => absurd h h'); rw [h] at this; exact this)
      obtain ⟨p, m⟩ := t
      simp only [Nat.zero_mul, Nat.add_zero] at c0 c1
      have e2 : ((na : Int) == 0) = false := by simp; omega
      have g2 : decide ((0 : Int) < (na : Int)) = true := decide_eq_true (by omega)
      cases b' with
      | nil =>
        obtain rfl : nb = 0 := by simpa using hlb.symm
        clear hcella hcellb
        go_wp2_with (fail)
        go_quiet (fail)
        go_wp2_with (fail)
        go_quiet (fail)
        go_wp2_with (fail)
        all_goals
          refine (HF.out _ m 0).mono ?_
          rintro e w' ⟨rfl, rfl⟩
          obtain ⟨kk, hkk⟩ : ∃ kk, f m 0 = kk := ⟨_, rfl⟩
          rw [hkk]
          have HKK := Lib.hid hkk; clear hkk
          by_cases hk : 0 < kk
          · go_wp2_with (at_builtin; go_must (refine wpList_append_oneN rfl (.tmp 105) (.tmp 109) 37 rfl 40 i0 _ 2 16 Tryz.underlying37 hi0 hz0 hz1 hz2 rfl (by decide) encT (fun _ => rfl) w ((HE.out.drewN _).alloc _) _ o rfl (OwnN.ext HO.out (((Ext.refl _).drewN _).alloc _)) wr.heap.size 1 (p, kk) rfl (cells_new _ _ _ _ rfl) ?c1 ?c2 ?c3 ?c4))
            case c1 =>
              intro x hx
              simp only [encT, List.mem_cons, List.not_mem_nil, or_false] at hx
              rcases hx with rfl | rfl <;> rfl
            case c2 => have := HLEN.out; unfold maxLen; omega
            case c3 => have := HLEN.out; omega
            case c4 =>
              intro v' w7 hown7 hE7 hg7
              clear hg7
              have HOWN7 := Lib.hid hown7; clear hown7
              have HE7 := Lib.hid hE7; clear hE7
              go_wp2_with (fail)
              go_roundw
              case rel =>
                refine ⟨a'', [], o ++ [(p, kk)], (by first | exact HTA.out _ (fun _ => rfl) | exact HTA1.out (by assumption) _), HRB.out, HOWN7.out, ?_, HE7.out, by have := HLEN.out; simp at this ⊢; omega⟩
                rw [← HW.out]
                rw [walkT]
                rw [HKK.out, ckT, if_pos hk, List.append_assoc]
              case measure => simp [lenV]; omega
          · go_wp2_with (fail)
            go_roundw
            case rel =>
              refine ⟨a'', [], o, (by first | exact HTA.out _ (fun _ => rfl) | exact HTA1.out (by assumption) _), HRB.out, OwnN.ext HO.out ((Ext.refl _).drewN _), ?_, HE.out.drewN _, by have := HLEN.out; simp at this ⊢; omega⟩
              rw [← HW.out]
              rw [walkT]
              rw [HKK.out, ckT, if_neg (by omega), List.nil_append]
            case measure => simp [lenV]; omega
      | cons u b'' =>
        have hnb : 0 < nb := by simp at hlb; omega
        obtain ⟨bb, ob, u', rfl, hbb, hu, d0, d1⟩ := RdT.tick (HRB.out.ext HE.out) hnb
        obtain rfl : u = u' := by simpa using hu
        clear hu
        have HTB := Lib.hid (HRB.out.tail_)
        have HTB1 : Hid (cb = 1 → ∀ A, RdN w 2 encT (.slice A (nb - 1) 0) b'') := Lib.hid (fun h A => by have := HRB.out.tail_ A (fun h' => absurd h h'); rw [h] at this; exact this)
        obtain ⟨q, n⟩ := u
        simp only [Nat.zero_mul, Nat.add_zero] at d0 d1
        have e1 : ((nb : Int) == 0) = false := by simp; omega
        clear hcella hcellb
        by_cases h1 : p < q
        · have hd1 : decide (p < q) = true := decide_eq_true h1
          go_wp2_with (fail)
          go_quiet (fail)
          go_wp2_with (fail)
          go_quiet (fail)
          go_wp2_with (fail)
          all_goals
            refine (HF.out _ m 0).mono ?_
            rintro e w' ⟨rfl, rfl⟩
            obtain ⟨kk, hkk⟩ : ∃ kk, f m 0 = kk := ⟨_, rfl⟩
            rw [hkk]
            have HKK := Lib.hid hkk; clear hkk
            by_cases hk : 0 < kk
            · go_wp2_with (at_builtin; go_must (refine wpList_append_oneN rfl (.tmp 105) (.tmp 109) 37 rfl 40 i0 _ 2 16 Tryz.underlying37 hi0 hz0 hz1 hz2 rfl (by decide) encT (fun _ => rfl) w ((HE.out.drewN _).alloc _) _ o rfl (OwnN.ext HO.out (((Ext.refl _).drewN _).alloc _)) wr.heap.size 1 (p, kk) rfl (cells_new _ _ _ _ rfl) ?c1 ?c2 ?c3 ?c4))
              case c1 =>
                intro x hx
                simp only [encT, List.mem_cons, List.not_mem_nil, or_false] at hx
                rcases hx with rfl | rfl <;> rfl
              case c2 => have := HLEN.out; unfold maxLen; omega
              case c3 => have := HLEN.out; omega
              case c4 =>
                intro v' w7 hown7 hE7 hg7
                clear hg7
                have HOWN7 := Lib.hid hown7; clear hown7
                have HE7 := Lib.hid hE7; clear hE7
                go_wp2_with (fail)
                go_roundw
                case rel =>
                  refine ⟨a'', (q, n) :: b'', o ++ [(p, kk)], (by first | exact HTA.out _ (fun _ => rfl) | exact HTA1.out (by assumption) _), HRB.out, HOWN7.out, ?_, HE7.out, by have := HLEN.out; simp at this ⊢; omega⟩
                  rw [← HW.out]
                  rw [walkT, if_pos h1]
                  rw [HKK.out, ckT, if_pos hk, List.append_assoc]
                case measure => simp [lenV]; omega
            · go_wp2_with (fail)
              go_roundw
              case rel =>
                refine ⟨a'', (q, n) :: b'', o, (by first | exact HTA.out _ (fun _ => rfl) | exact HTA1.out (by assumption) _), HRB.out, OwnN.ext HO.out ((Ext.refl _).drewN _), ?_, HE.out.drewN _, by have := HLEN.out; simp at this ⊢; omega⟩
                rw [← HW.out]
                rw [walkT, if_pos h1]
                rw [HKK.out, ckT, if_neg (by omega), List.nil_append]
              case measure => simp [lenV]; omega
        · have hd1 : decide (p < q) = false := decide_eq_false h1
          by_cases h2 : q < p
          · have hd2 : decide (q < p) = true := decide_eq_true h2
            go_wp2_with (fail)
            go_quiet (fail)
            go_wp2_with (fail)
            go_quiet (fail)
            go_wp2_with (fail)
            go_quiet (fail)
            go_wp2_with (fail)
            all_goals
              refine (HF.out _ 0 n).mono ?_
              rintro e w' ⟨rfl, rfl⟩
              obtain ⟨kk, hkk⟩ : ∃ kk, f 0 n = kk := ⟨_, rfl⟩
              rw [hkk]
              have HKK := Lib.hid hkk; clear hkk
              by_cases hk : 0 < kk
              · go_wp2_with (at_builtin; go_must (refine wpList_append_oneN rfl (.tmp 105) (.tmp 109) 37 rfl 40 i0 _ 2 16 Tryz.underlying37 hi0 hz0 hz1 hz2 rfl (by decide) encT (fun _ => rfl) w ((HE.out.drewN _).alloc _) _ o rfl (OwnN.ext HO.out (((Ext.refl _).drewN _).alloc _)) wr.heap.size 1 (q, kk) rfl (cells_new _ _ _ _ rfl) ?c1 ?c2 ?c3 ?c4))
                case c1 =>
                  intro x hx
                  simp only [encT, List.mem_cons, List.not_mem_nil, or_false] at hx
                  rcases hx with rfl | rfl <;> rfl
                case c2 => have := HLEN.out; unfold maxLen; omega
                case c3 => have := HLEN.out; omega
                case c4 =>
                  intro v' w7 hown7 hE7 hg7
                  clear hg7
                  have HOWN7 := Lib.hid hown7; clear hown7
                  have HE7 := Lib.hid hE7; clear hE7
                  go_wp2_with (fail)
                  go_roundw
                  case rel =>
                    refine ⟨(p, m) :: a'', b'', o ++ [(q, kk)], HRA.out, (by first | exact HTB.out _ (fun _ => rfl) | exact HTB1.out (by assumption) _), HOWN7.out, ?_, HE7.out, by have := HLEN.out; simp at this ⊢; omega⟩
                    rw [← HW.out]
                    rw [walkT, if_neg (by omega), if_pos h2]
                    rw [HKK.out, ckT, if_pos hk, List.append_assoc]
                  case measure => simp [lenV]; omega
              · go_wp2_with (fail)
                go_roundw
                case rel =>
                  refine ⟨(p, m) :: a'', b'', o, HRA.out, (by first | exact HTB.out _ (fun _ => rfl) | exact HTB1.out (by assumption) _), OwnN.ext HO.out ((Ext.refl _).drewN _), ?_, HE.out.drewN _, by have := HLEN.out; simp at this ⊢; omega⟩
                  rw [← HW.out]
                  rw [walkT, if_neg (by omega), if_pos h2]
                  rw [HKK.out, ckT, if_neg (by omega), List.nil_append]
                case measure => simp [lenV]; omega
          · have hd2 : decide (q < p) = false := decide_eq_false h2
            go_wp2_with (fail)
            go_quiet (fail)
            go_wp2_with (fail)
            go_quiet (fail)
            go_wp2_with (fail)
            go_quiet (fail)
            go_wp2_with (fail)
            all_goals
              refine (HF.out _ m n).mono ?_
              rintro e w' ⟨rfl, rfl⟩
              obtain ⟨kk, hkk⟩ : ∃ kk, f m n = kk := ⟨_, rfl⟩
              rw [hkk]
              have HKK := Lib.hid hkk; clear hkk
              by_cases hk : 0 < kk
              · go_wp2_with (at_builtin; go_must (refine wpList_append_oneN rfl (.tmp 105) (.tmp 109) 37 rfl 40 i0 _ 2 16 Tryz.underlying37 hi0 hz0 hz1 hz2 rfl (by decide) encT (fun _ => rfl) w ((HE.out.drewN _).alloc _) _ o rfl (OwnN.ext HO.out (((Ext.refl _).drewN _).alloc _)) wr.heap.size 1 (p, kk) rfl (cells_new _ _ _ _ rfl) ?c1 ?c2 ?c3 ?c4))
                case c1 =>
                  intro x hx
                  simp only [encT, List.mem_cons, List.not_mem_nil, or_false] at hx
                  rcases hx with rfl | rfl <;> rfl
                case c2 => have := HLEN.out; unfold maxLen; omega
                case c3 => have := HLEN.out; omega
                case c4 =>
                  intro v' w7 hown7 hE7 hg7
                  clear hg7
                  have HOWN7 := Lib.hid hown7; clear hown7
                  have HE7 := Lib.hid hE7; clear hE7
                  go_wp2_with (fail)
                  go_roundw
                  case rel =>
                    refine ⟨a'', b'', o ++ [(p, kk)], (by first | exact HTA.out _ (fun _ => rfl) | exact HTA1.out (by assumption) _), (by first | exact HTB.out _ (fun _ => rfl) | exact HTB1.out (by assumption) _), HOWN7.out, ?_, HE7.out, by have := HLEN.out; simp at this ⊢; omega⟩
                    rw [← HW.out]
                    rw [walkT, if_neg (by omega), if_neg (by omega)]
                    rw [HKK.out, ckT, if_pos hk, List.append_assoc]
                  case measure => simp [lenV]; omega
              · go_wp2_with (fail)
                go_roundw
                case rel =>
                  refine ⟨a'', b'', o, (by first | exact HTA.out _ (fun _ => rfl) | exact HTA1.out (by assumption) _), (by first | exact HTB.out _ (fun _ => rfl) | exact HTB1.out (by assumption) _), OwnN.ext HO.out ((Ext.refl _).drewN _), ?_, HE.out.drewN _, by have := HLEN.out; simp at this ⊢; omega⟩
                  rw [← HW.out]
                  rw [walkT, if_neg (by omega), if_neg (by omega)]
                  rw [HKK.out, ckT, if_neg (by omega), List.nil_append]
                case measure => simp [lenV]; omega

end Go.Proofs.YthldgioggjpnpaaGreat
