/-
  Contracts: slices.Equal at bools, closure after.
-/
import Derived.Test.YthgplaledmccgaaW11
import Derived.Test.YthgplaledmccgaaSpec5
namespace Go.Proofs.Ythgplaledmccgaa
open Go.RowKit

theorem Rd1.pre {α : Type} {w : World} {enc : α → Value} {A : Option Addr} {n c : Nat} {l : List α} (h : Rd1 w enc (.slice A n c) l) {i : Nat} (hi : i ≤ n) : Rd1 w enc (.slice A i c) (l.take i) := by
  obtain ⟨A', n', c', he, hl, h1, h2, h3⟩ := h
  injection he with e1 e2 e3
  subst e1 e2 e3
  refine ⟨_, _, _, rfl, by simp; omega, by omega, h2, fun hn => ?_⟩
  obtain ⟨b, off, hA, hb, hc⟩ := h3 (by omega)
  refine ⟨b, off, hA, hb, fun j x hj => hc j x ?_⟩
  rw [List.getElem?_take] at hj
  split at hj
  · exact hj
  · cases hj

theorem wpList_copy_pre {P : Program} {w : World} {ops : Array Oper} {rest : List Oper} {o : Oper} {a : Act} {Q : Exit → Act → World → Prop} (hgd : o.guard = none) (d s : Operand) (T : TypeId)
    (ho : o.op = .call { callee := .builtin .copy, args := #[d, s], argTypes := #[T, T] }) (elem : TypeId) (hu : P.underlying T = some (.slice elem)) (hsz : (P.info? elem).map (·.size) = some 1)
    {α : Type} (enc : α → Value) (g : Nat) (l0 l : List α) (vs : Value) (n : Nat) (hd : a.eval d = .slice (some ⟨g, 0, none⟩) n n) (hn0 : l0.length = n) (hs : a.eval s = vs) (hv : Rd1 w enc vs l) (hA : Arr w elem enc g l0)
    (hn1 : l.length ≤ n) (h1 : ∀ x, (enc x).oneCell' = true) (w0 : World) (hE : Ext w0 w) (hg : w0.heap.size ≤ g)
    (h : ∀ w', Arr w' elem enc g (l ++ l0.drop l.length) → Ext w0 w' → wpList P ops Q rest (a.put o.dst (goInt l.length)) w') : wpList P ops Q (o :: rest) a w := by
  obtain ⟨A, m, c, rfl, hl, hmc, hcm, hcell⟩ := hv
  have hlm : (l.map enc).length = Nat.min m n := by
    have : Nat.min m n = m := Nat.min_eq_left (by omega)
    rw [this]; simp [hl]
  refine wpList_copy_splice hgd d s T T ho elem hu hsz (some ⟨g, 0, none⟩) A n n m c hd hs g 0 (l0.map enc) elem hA (l.map enc) hlm ?_ (by simp; omega) ?_ w0.heap.size w0 hE hg ?_
  · intro h0
    refine ⟨rfl, ?_⟩
    obtain ⟨b, off, rfl, hb, hc⟩ := hcell (by simpa [hl] using h0)
    refine ⟨⟨b, off, none⟩, rfl, fun j v hj => ?_⟩
    rw [List.getElem?_map] at hj
    cases hx : l[j]? with
    | none => rw [hx] at hj; cases hj
    | some x =>
      rw [hx] at hj
      cases hj
      have := hc j x hx
      unfold Addr.add
      split
      · subst_vars; simpa using this
      · exact this
  · intro v hv
    obtain ⟨x, _, rfl⟩ := List.mem_map.1 hv
    exact h1 x
  · intro w' hw' hb
    rw [List.length_map]
    refine h w' ?_ hb
    have := hw'.out
    unfold Arr Blk
    rw [this]
    congr 2
    simp [splice]

set_option maxRecDepth 100000 in
set_option maxHeartbeats 400000 in
theorem equal_any (va vb : Value) (a b : List Bool) (w : World) (ha : Rd1 w Value.bool va a) (hb : Rd1 w Value.bool vb b) :
    Calls Try.prog 65 #[va, vb] w fun e w' => e = .returned (.bool (decide (a = b))) ∧ ∃ n, w' = w.drewN n := by
  obtain ⟨A, n, c, rfl, hl, hnc, hcm, hcell⟩ := ha
  obtain ⟨A', n', c', rfl, hl', hnc', hcm', hcell'⟩ := hb
  unfold maxLen at hcm hcm'
  have HL := Lib.hid hl; clear hl
  have HC := Lib.hid hcell; clear hcell
  have HL' := Lib.hid hl'; clear hl'
  have HC' := Lib.hid hcell'; clear hcell'
  by_cases hnn : n = n'
  · subst hnn
    go_enter Try.func65, Try.ntmps65
    go_wp2
    go_loopw [13] (fun i wr => ∃ k : Nat, k ≤ n ∧ i = .int .i64 k ∧ (∃ m, wr = w.drewN m) ∧ a.take k = b.take k) (fun i _ => n - (intOf i).toNat)
    case atStart => exact ⟨0, Nat.zero_le _, rfl, ⟨0, rfl⟩, by simp⟩
    case round =>
      obtain ⟨k, hk, rfl, ⟨m, rfl⟩, hno⟩ := hrel
      have HNO := Lib.hid hno; clear hno
      by_cases hlt : k < n
      · obtain ⟨bl, off, rfl, hbl, hc⟩ := HC.out (by omega)
        obtain ⟨bl', off', rfl, hbl', hc'⟩ := HC'.out (by omega)
        have hkl : k < a.length := by rw [HL.out]; exact hlt
        have hkl' : k < b.length := by rw [HL'.out]; exact hlt
        have hc1 := hc k a[k] (List.getElem?_eq_getElem hkl)
        have hc2 := hc' k b[k] (List.getElem?_eq_getElem hkl')
        have hltI : (k : Int) < (n : Int) := by omega
        clear hc hc'
        by_cases hab : a[k] = b[k]
        · rw [hab] at hc1
          have HAB := Lib.hid hab; clear hab
          have hnext : a.take (k + 1) = b.take (k + 1) := by rw [List.take_succ_eq_append_getElem hkl, List.take_succ_eq_append_getElem hkl', HNO.out, HAB.out]
          have HNX := Lib.hid hnext; clear hnext HAB
          generalize b[k] = y at hc1 hc2
          cases y
          all_goals
            go_wp2
            go_quiet (fail)
            go_wp2
            go_roundw
            case rel => exact ⟨k + 1, by omega, by go_num, ⟨_, rfl⟩, HNX.out⟩
            case measure => simp [intOf]; omega
        · have hne : a[k] = !b[k] := by cases h1 : a[k] <;> cases h2 : b[k] <;> simp_all
          rw [hne] at hc1
          have hnab : ¬ a = b := fun he => by subst he; exact hab rfl
          have HAB := Lib.hid hnab; clear hab hne hnab
          generalize b[k] = y at hc1 hc2
          cases y
          all_goals
            go_wp2
            go_quiet (fail)
            go_wp2
            go_ret
            exact ⟨ret_bool (Eq.symm (decide_eq_false HAB.out)), _, World.drewN_drewN _ _ _⟩
      · go_wp2
        go_ret
        refine ⟨ret_bool (Eq.symm (decide_eq_true ?_)), _, rfl⟩
        have hno := HNO.out
        rwa [List.take_of_length_le (by have := HL.out; omega), List.take_of_length_le (by have := HL'.out; omega)] at hno
  · have hne : ((n : Int) != (n' : Int)) = true := by simp; omega
    go_enter Try.func65, Try.ntmps65
    go_wp2
    go_ret
    refine ⟨ret_bool (Eq.symm (decide_eq_false fun he => hnn ?_)), 0, rfl⟩
    rw [← HL.out, ← HL'.out, he]

theorem equal_quiet (va vb : Value) (a b : List Bool) (w : World) (n : Nat) (r : Bool) (ha : Rd1 w Value.bool va a) (hb : Rd1 w Value.bool vb b) (hr : decide (a = b) = r) :
    Calls Try.prog 65 #[va, vb] (w.drewN n) fun e w' => e = .returned (.bool r) ∧ ∃ m, w' = w.drewN m := by
  rw [← hr]
  exact Calls.quiet_of (equal_any va vb a b _ (ha.ext ((Ext.refl _).drewN _)) (hb.ext ((Ext.refl _).drewN _)))

/-- a function value that maps sets of n places to sets of n places -/
def OpAt (P : Program) (f : Value) (n : Nat) (O : List Bool → List Bool) (w : World) : Prop :=
  ∃ g fst cap, f = .func (.func g) fst cap ∧ (∀ (args : Array Value) (w : World), (callFunc g args).run P w = .ok (.enter g args) w) ∧
    (∀ s, s.length = n → (O s).length = n) ∧
    ∀ W v s, Ext w W → Rd1 W Value.bool v s → s.length = n → Calls P g (fst.push v ++ cap) W fun e W' => ∃ g', e = .returned (.slice (some ⟨g', 0, none⟩) n n) ∧ Arr W' 4 Value.bool g' (O s) ∧ Ext W W'
theorem OpAt.ext {P : Program} {f : Value} {n : Nat} {O : List Bool → List Bool} {w w' : World} (h : OpAt P f n O w) (he : Ext w w') : OpAt P f n O w' := by
  obtain ⟨g, fst, cap, hf, hen, hl, hc⟩ := h
  exact ⟨g, fst, cap, hf, hen, hl, fun W v s hE => hc W v s (he.trans hE)⟩

def AfterPost (O : List Bool → List Bool) (s : List Bool) (w : World) (e : Ending) (w' : World) : Prop :=
  Ext w w' ∧ match afterL O s with
    | some nx => ∃ g', e = .returned (.tuple #[.slice (some ⟨g', 0, none⟩) s.length s.length, .bool true]) ∧ Arr w' 4 Value.bool g' nx
    | none => e = .returned (.tuple #[.slice none 0 0, .bool false])

set_option maxRecDepth 100000 in
set_option maxHeartbeats 2000000 in
theorem after_any (vs f : Value) (s : List Bool) (O : List Bool → List Bool) (w : World) (hv : Rd1 w Value.bool vs s) (hn : s.length ≤ 1048576) (hO : OpAt Try.prog f s.length O w) :
    Calls Try.prog 46 #[vs, f] w (AfterPost O s w) := by
  obtain ⟨i0, hi0, hz0, hz1, hz2⟩ := info_parts inf4
  obtain ⟨gf, fst, cap, rfl, hen, holen, hcall⟩ := hO
  have HV := Lib.hid hv
  obtain ⟨A, n, c, rfl, hl, hnc, hcm, hcell⟩ := hv
  rw [hl] at hn holen hcall
  unfold maxLen at hcm
  have HCALL := Lib.hid hcall; clear hcall
  have HOL := Lib.hid holen; clear holen
  have HL := Lib.hid hl; clear hl
  have HC := Lib.hid hcell; clear hcell
  have hone : ∀ x, (Value.bool x).oneCell' = true := fun _ => rfl
  have HONE := Lib.hid hone; clear hone
  go_enter Try.func46, Try.ntmps46
  go_wp2_with (fail)
  go_loopw [6] (fun i wr => ∃ (k : Nat) (i' : Int), k ≤ n ∧ i = .int .i64 i' ∧ i' = (k : Int) - 1 ∧ Ext w wr ∧ afterL O s = afterFrom O s k) (fun i _ => (intOf i + 1).toNat)
  case atStart => exact ⟨n, (n : Int) - 1, Nat.le_refl _, rfl, rfl, Ext.refl _, by unfold afterL; rw [HL.out]⟩
  case round =>
    obtain ⟨k, i', hk, rfl, hi', hE, haf⟩ := hrel
    have HE := Lib.hid hE; clear hE
    have HAF := Lib.hid haf; clear haf
    cases k with
    | zero =>
      obtain rfl : i' = -1 := by simpa using hi'
      clear hi'
      go_wp2_with (fail)
      go_ret2
      refine ⟨HE.out, ?_⟩
      rw [HAF.out]
      rfl
    | succ k =>
      obtain rfl : i' = (k : Int) := by omega
      clear hi'
      obtain ⟨bl, off, rfl, hbl, hcl⟩ := HC.out (by omega)
      have hkl : k < s.length := by rw [HL.out]; omega
      have hc1 := HE.out.cell (hcl k s[k] (List.getElem?_eq_getElem hkl))
      clear hcl
      have hget : s.getD k false = s[k] := by rw [List.getD_eq_getElem?_getD, List.getElem?_eq_getElem hkl]; rfl
      have HGET := Lib.hid hget; clear hget
      have hkn : (k : Int) < (n : Int) := by omega
      cases hs : s[k] with
      | true =>
        rw [hs] at hc1
        have HS := Lib.hid hs; clear hs
        go_wp2_with (fail)
        go_roundw
        case rel => exact ⟨k, (k : Int) - 1, by omega, rfl, rfl, HE.out, by rw [HAF.out, afterFrom, if_pos (by rw [HGET.out, HS.out])]⟩
        case measure => simp [intOf]
      | false =>
        rw [hs] at hc1
        have HS := Lib.hid hs; clear hs
        go_wp2_with (first | (at_make; refine wpList_make_arr rfl (.tmp 21) (.tmp 21) 74 4 rfl i0 _ 1 Try.underlying74 hi0 hz0 hz1 hz2 rfl n rfl rfl (by omega) (by unfold maxLen; omega) ?_; intro w1 g hblk hgb hE1; have hpre : Rd1 w1 Value.bool (.slice (some ⟨bl, off, none⟩) k c) (s.take k) := ((HV.out.ext HE.out).ext hE1).pre (by omega); have hlk : (s.take k).length = k := (by rw [List.length_take]; omega); have hA1 : Arr w1 4 Value.bool g (List.replicate n false) := (by unfold Arr; simpa using hblk); have hgw : w.heap.size ≤ g := Nat.le_trans HE.out.size hgb; have hE1' : Ext w w1 := HE.out.trans hE1; have HPRE := Lib.hid hpre; clear hpre; have HLK := Lib.hid hlk; clear hlk; have HA1 := Lib.hid hA1; clear hA1; have HE1 := Lib.hid hE1'; clear hE1' hE1 hblk) | (refine wpList_copy_pre rfl (.tmp 23) (.tmp 26) 74 rfl 4 Try.underlying74 (by rw [hi0]; simp [hz1]) Value.bool g (List.replicate n false) (s.take k) (.slice (some ⟨bl, off, none⟩) k c) n rfl (by simp) rfl HPRE.out HA1.out (by rw [HLK.out]; omega) HONE.out w HE1.out hgw ?_; intro w2 hA2 hE2; obtain ⟨ob, hob⟩ : ∃ ob, w2.cell? ⟨g, k, none⟩ = some (.bool ob) := ⟨(s.take k ++ (List.replicate n false).drop (s.take k).length)[k]'(by rw [List.length_append, List.length_drop, List.length_replicate, HLK.out]; omega), hA2.cell (List.getElem?_eq_getElem _)⟩; have hfz := hA2.frozen k; have HA2 := Lib.hid hA2; clear hA2; have HE2 := Lib.hid hE2; clear hE2))
        have hcd : cand s k = (s.take k ++ (List.replicate n false).drop (s.take k).length).set k true := by
          unfold cand; rw [HLK.out, List.drop_replicate, HL.out]
        have hA3 : Arr (w2.setCell ⟨g, k, none⟩ (.bool true)) 4 Value.bool g (cand s k) := by rw [hcd]; exact HA2.out.set_ k true
        have hcl : (cand s k).length = n := by rw [cand_len _ _ (by omega), HL.out]
        have hrd := hA3.rd (by rw [hcl]; unfold maxLen; omega)
        rw [hcl] at hrd
        have hE3 : Ext w (w2.setCell ⟨g, k, none⟩ (.bool true)) := HE2.out.setCell (p := ⟨g, k, none⟩) hgw _
        refine (HCALL.out _ _ _ hE3 hrd hcl).mono ?_
        rintro e w3 ⟨b3, rfl, hA3, hE4⟩
        have hol := HOL.out _ hcl
        have hrd3 := hA3.rd (by rw [hol]; unfold maxLen; omega)
        rw [hol] at hrd3
        have HRD3 := Lib.hid hrd3
        have HA3 := Lib.hid hA3
        have hb3 := hA3.lt
        have HE3 := Lib.hid (hE3.trans hE4)
        clear hE3 hE4 hrd hrd3 hA3 hcd hcl hob hfz
        generalize hnx : O (cand s k) = nx at *
        have HNX := Lib.hid hnx; clear hnx
        have hp1 := HRD3.out.pre (i := k) (by omega)
        have hp2 := (HV.out.ext HE3.out).pre (i := k) (by omega)
        have HP1 := Lib.hid hp1; clear hp1
        have HP2 := Lib.hid hp2; clear hp2
        have hk1 : (k : Int) ≤ (n : Int) := by omega
        have hk2 : (k : Int) ≤ (c : Int) := by omega
        have hk3 : (0 : Int) ≤ (k : Int) := by omega
        have hk4 : k ≤ n := by omega
        have hk5 : k ≤ c := by omega
        by_cases heq : nx.take k = s.take k
        · have HEQ := Lib.hid heq; clear heq
          go_wp2_with (fail)
          go_quiet ((go_at_call 65; exact equal_quiet _ _ (nx.take k) (s.take k) _ _ true HP1.out HP2.out (decide_eq_true HEQ.out)))
          go_wp2_with (fail)
          go_ret2
          refine ⟨HE3.out.drewN _, ?_⟩
          rw [HAF.out, afterFrom, if_neg (by rw [HGET.out, HS.out]; decide), HNX.out, if_pos HEQ.out]
          exact ⟨_, by rw [HL.out]; rfl, HA3.out.ext ((Ext.refl _).drewN _)⟩
        · have HEQ := Lib.hid heq; clear heq
          go_wp2_with (fail)
          go_quiet ((go_at_call 65; exact equal_quiet _ _ (nx.take k) (s.take k) _ _ false HP1.out HP2.out (decide_eq_false HEQ.out)))
          go_wp2_with (fail)
          go_roundw
          case rel => exact ⟨k, (k : Int) - 1, by omega, rfl, rfl, HE3.out.drewN _, by rw [HAF.out, afterFrom, if_neg (by rw [HGET.out, HS.out]; decide), HNX.out, if_neg HEQ.out]⟩
          case measure => simp [intOf]
end Go.Proofs.Ythgplaledmccgaa
