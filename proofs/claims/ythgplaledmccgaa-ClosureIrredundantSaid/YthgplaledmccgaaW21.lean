/-
  Contract: slices.Reverse at a row of ints of the call's own.
-/
import Derived.Test.YthgplaledmccgaaW19
import Derived.RegionTactic
import Derived.ChangeAlike
namespace Go.Proofs.Ythgplaledmccgaa
open Go.RowKit

theorem Own.set_ {α : Type} {w : World} {base : Nat} {t : TypeId} {enc : α → Value} {g n cap : Nat} {l : List α} (h : Own w base t enc (.slice (some ⟨g, 0, none⟩) n cap) l) (hn : n = l.length) (j : Nat) (x : α) :
    Own (w.setCell ⟨g, j, none⟩ (enc x)) base t enc (.slice (some ⟨g, 0, none⟩) n cap) (l.set j x) := by
  subst hn
  have := (World.ownsRow.stored (xs := l.map enc) h j (enc x)).1
  show World.ownsRow _ _ _ _ _ _ _
  rw [List.length_set, List.map_set]
  exact this
theorem Own.drew {α : Type} {w : World} {base : Nat} {t : TypeId} {enc : α → Value} {v : Value} {l : List α} (h : Own w base t enc v l) : Own w.drew base t enc v l := h.ext ((Ext.refl w).drew)
theorem Own.lo {α : Type} {w : World} {base : Nat} {t : TypeId} {enc : α → Value} {g n cap : Nat} {l : List α} (h : Own w base t enc (.slice (some ⟨g, 0, none⟩) n cap) l) : base ≤ g := (World.ownsRow.lt h g rfl).1

theorem Own.at_ {α : Type} {w : World} {base : Nat} {t : TypeId} {enc : α → Value} {g n cap : Nat} {l : List α} (h : Own w base t enc (.slice (some ⟨g, 0, none⟩) n cap) l) (hn : n = l.length) {i : Nat} {x : α} (hx : l[i]? = some x) : w.cell? ⟨g, i, none⟩ = some (enc x) := by
  subst hn
  have hi := (List.getElem?_eq_some_iff.1 hx).1
  rw [World.ownsRow.cellAt (xs := l.map enc) h i (by omega), List.getElem?_map, hx]
  rfl
theorem Own.thaw {α : Type} {w : World} {base : Nat} {t : TypeId} {enc : α → Value} {g n cap : Nat} {l : List α} (h : Own w base t enc (.slice (some ⟨g, 0, none⟩) n cap) l) (hn : n = l.length) (i : Nat) : w.frozen? ⟨g, i, none⟩ = false := by
  subst hn
  exact World.ownsRow.frozenAt (xs := l.map enc) h i

theorem Rd1.open_ {α : Type} {w : World} {enc : α → Value} {A : Option Addr} {n c : Nat} {l : List α} (h : Rd1 w enc (.slice A n c) l) :
    l.length = n ∧ n ≤ c ∧ c ≤ maxLen ∧ (0 < n → ∃ b off, A = some ⟨b, off, none⟩ ∧ b < w.heap.size ∧ ∀ j x, l[j]? = some x → w.cell? ⟨b, off + j, none⟩ = some (enc x)) := by
  obtain ⟨A', n', c', he, h1, h2, h3, h4⟩ := h
  injection he with e1 e2 e3
  subst e1 e2 e3
  exact ⟨h1, h2, h3, h4⟩

/-- the first i places and the last i places are exchanged -/
def mixL (i : Nat) (l d : List Nat) : Prop := d.length = l.length ∧ ∀ t, t < l.length → d[t]? = if t < i ∨ l.length ≤ t + i then l[l.length - 1 - t]? else l[t]?
theorem mixL.start (l : List Nat) : mixL 0 l l := ⟨rfl, fun t ht => by rw [if_neg (by omega)]⟩
theorem mixL.step {i : Nat} {l d : List Nat} (h : mixL i l d) (hi : 2 * i + 1 < l.length) (a b : Nat) (ha : d[i]? = some a) (hb : d[l.length - 1 - i]? = some b) : mixL (i + 1) l ((d.set i b).set (l.length - 1 - i) a) := by
  obtain ⟨h1, h2⟩ := h
  refine ⟨by simp [h1], fun t ht => ?_⟩
  have e1 := h2 i (by omega)
  rw [if_neg (by omega), ha] at e1
  have e2 := h2 (l.length - 1 - i) (by omega)
  rw [if_neg (by omega), hb] at e2
  rw [List.getElem?_set, List.length_set, h1]
  by_cases c1 : l.length - 1 - i = t
  · rw [if_pos c1, if_pos (by omega), if_pos (by omega)]
    have : l.length - 1 - t = i := by omega
    rw [this, e1]
  · rw [if_neg c1, List.getElem?_set, h1]
    by_cases c2 : i = t
    · rw [if_pos c2, if_pos (by omega), if_pos (by omega)]
      have : l.length - 1 - t = l.length - 1 - i := by omega
      rw [this, e2]
    · rw [if_neg c2, h2 t ht]
      by_cases c3 : t < i ∨ l.length ≤ t + i
      · rw [if_pos c3, if_pos (by omega)]
      · rw [if_neg c3, if_neg (by omega)]
theorem mixL.stop {i : Nat} {l d : List Nat} (h : mixL i l d) (hi : ¬ 2 * i + 1 < l.length) : d = l.reverse := by
  obtain ⟨h1, h2⟩ := h
  apply List.ext_getElem?
  intro t
  by_cases ht : t < l.length
  · rw [h2 t ht, List.getElem?_reverse ht]
    split
    · rfl
    · have : t = l.length - 1 - t := by omega
      rw [← this]
  · rw [List.getElem?_eq_none (by omega), List.getElem?_eq_none (by simp; omega)]

set_option maxRecDepth 100000 in
set_option maxHeartbeats 800000 in
theorem reverse_any (v : Value) (l : List Nat) (w0 w : World) (hE : Ext w0 w) (h : Own w w0.heap.size 3 encI v l) (hm : l.length ≤ 1048576) :
    Calls Try.prog 62 #[v] w fun e w' => e = .returned (.tuple #[]) ∧ Own w' w0.heap.size 3 encI v l.reverse ∧ Ext w0 w' := by
  have h' := h
  rcases h'.2 with ⟨rfl, hn⟩ | ⟨g, cap, cur, rfl, -⟩
  · have hl : l = [] := List.eq_nil_of_length_eq_zero hn
    subst hl
    have H := Lib.hid h; clear h h'
    go_enter Try.func62, Try.ntmps62
    go_wp2
    go_loopg [2, 3] 0 (fun _ s2 s3 wr => s2 = .int .i64 0 ∧ s3 = .int .i64 (-1) ∧ wr = w)
    case atStart => exact ⟨rfl, rfl, rfl⟩
    case round =>
      obtain ⟨rfl, rfl, rfl⟩ := hrel
      go_wp2
      go_end0
      exact ⟨rfl, H.out, hE⟩
  · clear h'
    have hlo := h.lo
    obtain ⟨n, HN⟩ : ∃ n, Hid (n = l.length) := ⟨_, rfl⟩
    have H := Lib.hid h; clear h
    have HE := Lib.hid hE; clear hE
    rw [← HN.out] at H hm ⊢
    go_enter Try.func62, Try.ntmps62
    go_wp2
    go_loopw [2, 3] (fun s2 s3 wr => ∃ (i : Nat) (d : List Nat), i ≤ n ∧ s2 = .int .i64 i ∧ s3 = .int .i64 ((n : Int) - 1 - i) ∧ mixL i l d ∧ Own wr w0.heap.size 3 encI (.slice (some ⟨g, 0, none⟩) n cap) d ∧ Ext w0 wr) (fun s2 _ _ => n - (intOf s2).toNat)
    case atStart => exact ⟨0, l, Nat.zero_le _, rfl, by simp, mixL.start l, H.out, HE.out⟩
    case round =>
      obtain ⟨i, d, hi, rfl, rfl, hmx, hown, hEr⟩ := hrel
      have hdl : n = d.length := by rw [HN.out, hmx.1]
      by_cases hlt : 2 * i + 1 < n
      · have hj : n - 1 - i < n := by omega
        have ha : d[i]? = some (d[i]'(by omega)) := List.getElem?_eq_getElem _
        have hb : d[n - 1 - i]? = some (d[n - 1 - i]'(by omega)) := List.getElem?_eq_getElem _
        generalize d[i]'(by omega) = a at *
        generalize d[n - 1 - i]'(by omega) = b at *
        have hc1 : wr.cell? ⟨g, i, none⟩ = some (.int .i64 a) := hown.at_ hdl ha
        have hc2 : wr.cell? ⟨g, n - 1 - i, none⟩ = some (.int .i64 b) := hown.at_ hdl hb
        have hf1 := hown.thaw hdl i
        have hf2 := hown.thaw hdl (n - 1 - i)
        have hjI : (n : Int) - 1 - i = ((n - 1 - i : Nat) : Int) := by omega
        have hne : i ≠ n - 1 - i := by omega
        have hltI : (i : Int) < ((n - 1 - i : Nat) : Int) := by omega
        rw [hjI]
        have hmx' := hmx.step (by rw [← HN.out]; omega) a b ha (by rw [← HN.out]; exact hb)
        rw [← HN.out] at hmx'
        have ho1 : Own ((wr.setCell ⟨g, i, none⟩ (encI b)).setCell ⟨g, n - 1 - i, none⟩ (encI a)) w0.heap.size 3 encI (.slice (some ⟨g, 0, none⟩) n cap) ((d.set i b).set (n - 1 - i) a) := (hown.set_ hdl i b).set_ (by rw [List.length_set]; exact hdl) _ a
        have hE1 : Ext w0 ((wr.setCell ⟨g, i, none⟩ (encI b)).setCell ⟨g, n - 1 - i, none⟩ (encI a)) := (hEr.setCell (p := ⟨g, i, none⟩) hlo _).setCell (p := ⟨g, n - 1 - i, none⟩) hlo _
        have HO1 := Lib.hid ho1; clear ho1
        have HE1 := Lib.hid hE1; clear hE1
        have HMX := Lib.hid hmx'; clear hmx' hmx
        have HDL := Lib.hid hdl; clear hdl ha hb hown hjI
        go_wp2_with (fail)
        go_region
        all_goals
          go_wp2
          go_roundw
          case rel => exact ⟨i + 1, _, by omega, by go_num, by go_num, HMX.out, HO1.out.drew, HE1.out.drew⟩
          case measure => simp [intOf]; omega
      · have hltI : ¬ (i : Int) < (n : Int) - 1 - i := by omega
        have e := hmx.stop (by rw [← HN.out]; exact hlt)
        subst e
        clear hdl hmx
        go_wp2
        go_end0
        exact ⟨rfl, hown, hEr⟩
end Go.Proofs.Ythgplaledmccgaa
