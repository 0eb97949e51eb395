/-
  Contracts: the comparison of lists of entries; value.Compare at values with entries alone; the sort of entries.
  Plain laws: the comparisons of clocks and entries are total orders.
  The comparison chain with the count of draws known not to fall; slices.SortFunc at entries by the shelf.
  Contracts: merged's comparison; slices.SortFunc at a row of entries.
  Contracts: join.merged.
  Contracts: join.join at registers; slices.Clone at ticks; join.copied.
  A call of a Go function as one step of a region that draws (for go_region_law).
  Contract: join.copied at a value with entries alone.
-/
import Derived.Test.YthldgioggjpnpaaGreatT8
import Derived.Sort.Statements
import Derived.Shelf.SlSortCmp.NoneTotal
import Derived.Lib.SliceRun
import Derived.StillTailTactics
import Derived.Test.YthldgioggjpnpaaGreatT7
namespace Go.Proofs.YthldgioggjpnpaaGreat.Old
open Go.RowKit

end Go.Proofs.YthldgioggjpnpaaGreat.Old

namespace Go.Proofs.YthldgioggjpnpaaGreat.Old
open Go.RowKit

structure CmpOk {α : Type} (c : α → α → Int) : Prop where
  anti : ∀ x y, c x y ≤ 0 ↔ 0 ≤ c y x
  trans : ∀ x y z, c x y ≤ 0 → c y z ≤ 0 → c x z ≤ 0
  eq : ∀ x y, c x y = 0 → x = y
theorem CmpOk.refl {α : Type} {c : α → α → Int} (h : CmpOk c) (x : α) : c x x = 0 := by
  have := h.anti x x
  omega
theorem CmpOk.zero {α : Type} {c : α → α → Int} (h : CmpOk c) {x y : α} (e : c x y = 0) : c y x = 0 := by
  obtain rfl := h.eq _ _ e
  exact e
theorem CmpOk.swo {α β : Type} {c : α → α → Int} (h : CmpOk c) (f : β → α) : Sort.SWO (fun x y : β => decide (c (f x) (f y) < 0)) where
  irrefl x := by simp [h.refl]
  trans x y z h1 h2 := by
    simp only [decide_eq_true_eq] at *
    have a1 := h.anti (f x) (f z)
    have a2 := h.anti (f z) (f x)
    have a3 := h.anti (f y) (f z)
    have a4 := h.anti (f z) (f y)
    by_cases hz : c (f z) (f x) ≤ 0
    · have := h.trans _ _ _ hz (show c (f x) (f y) ≤ 0 by omega)
      omega
    · omega
  ntrans x y z h1 h2 := by
    simp only [decide_eq_false_iff_not] at *
    have a1 := h.anti (f y) (f x)
    have a2 := h.anti (f z) (f y)
    have a3 := h.anti (f z) (f x)
    have := h.trans (f z) (f y) (f x) (by omega) (by omega)
    omega
def lex2 {α : Type} (c1 c2 : α → α → Int) (x y : α) : Int := if c1 x y = 0 then c2 x y else c1 x y

def lexL {α : Type} (c : α → α → Int) : List α → List α → Int
  | [], [] => 0
  | [], _ :: _ => -1
  | _ :: _, [] => 1
  | a :: ar, b :: br => if c a b = 0 then lexL c ar br else c a b
theorem lexL_ok {α : Type} {c : α → α → Int} (h : CmpOk c) : CmpOk (lexL c) where
  anti x y := by
    induction x generalizing y with
    | nil => cases y <;> simp [lexL]
    | cons a ar ih =>
      cases y with
      | nil => simp [lexL]
      | cons b br =>
        simp only [lexL]
        have a1 := h.anti a b
        have a2 := h.anti b a
        by_cases e : c a b = 0
        · rw [if_pos e, if_pos (h.zero e)]; exact ih br
        · have e2 : c b a ≠ 0 := fun e2 => e (h.zero e2)
          rw [if_neg e, if_neg e2]; exact a1
  trans x y z h1 h2 := by
    induction x generalizing y z with
    | nil => cases z <;> simp [lexL]
    | cons a ar ih =>
      cases y with
      | nil => simp [lexL] at h1
      | cons b br =>
        cases z with
        | nil => simp [lexL] at h2
        | cons d dr =>
          simp only [lexL] at *
          have t := h.trans a b d
          have t2 := h.trans b d a
          have t3 := h.trans d a b
          have p1 := h.anti a b
          have p2 := h.anti b a
          have p3 := h.anti b d
          have p4 := h.anti d b
          have p5 := h.anti a d
          have p6 := h.anti d a
          by_cases e1 : c a b = 0
          · obtain rfl := h.eq _ _ e1
            rw [if_pos e1] at h1
            by_cases e2 : c a d = 0
            · rw [if_pos e2] at h2 ⊢; exact ih _ _ h1 h2
            · rw [if_neg e2] at h2 ⊢; exact h2
          · rw [if_neg e1] at h1
            by_cases e2 : c b d = 0
            · obtain rfl := h.eq _ _ e2
              rw [if_neg e1]; exact h1
            · rw [if_neg e2] at h2
              have e3 : c a d ≠ 0 := by
                intro e3
                obtain rfl := h.eq _ _ e3
                omega
              rw [if_neg e3]; exact t h1 h2
  eq x y e := by
    induction x generalizing y with
    | nil => cases y <;> simp [lexL] at *
    | cons a ar ih =>
      cases y with
      | nil => simp [lexL] at e
      | cons b br =>
        simp only [lexL] at e
        by_cases e1 : c a b = 0
        · rw [if_pos e1] at e; rw [h.eq _ _ e1, ih _ e]
        · rw [if_neg e1] at e; exact absurd e e1
theorem compareInt_ok : CmpOk Lib.compareInt where
  anti x y := by unfold Lib.compareInt; split <;> split <;> (try split) <;> omega
  trans x y z := by unfold Lib.compareInt; split <;> split <;> (try split) <;> (try split) <;> (try split) <;> omega
  eq x y := by unfold Lib.compareInt; split <;> (try split) <;> omega
theorem lex2_ok {α β γ : Type} {c1 : β → β → Int} {c2 : γ → γ → Int} (f : α → β) (g : α → γ) (h1 : CmpOk c1) (h2 : CmpOk c2) (inj : ∀ x y, f x = f y → g x = g y → x = y) :
    CmpOk (lex2 (fun x y => c1 (f x) (f y)) (fun x y => c2 (g x) (g y))) where
  anti x y := by
    simp only [lex2]
    have a1 := h1.anti (f x) (f y)
    have a2 := h1.anti (f y) (f x)
    by_cases e : c1 (f x) (f y) = 0
    · rw [if_pos e, if_pos (h1.zero e)]; exact h2.anti _ _
    · have e2 : c1 (f y) (f x) ≠ 0 := fun e2 => e (h1.zero e2)
      rw [if_neg e, if_neg e2]; exact a1
  trans x y z k1 k2 := by
    simp only [lex2] at *
    by_cases e1 : c1 (f x) (f y) = 0
    · have q := h1.eq _ _ e1
      rw [if_pos e1] at k1
      rw [q]
      by_cases e2 : c1 (f y) (f z) = 0
      · rw [if_pos e2] at k2 ⊢; exact h2.trans _ _ _ k1 k2
      · rw [if_neg e2] at k2 ⊢; exact k2
    · rw [if_neg e1] at k1
      by_cases e2 : c1 (f y) (f z) = 0
      · have q := h1.eq _ _ e2
        rw [← q, if_neg e1]; exact k1
      · rw [if_neg e2] at k2
        have e3 : c1 (f x) (f z) ≠ 0 := by
          intro e3
          have q := h1.eq _ _ e3
          rw [q] at k1 e1
          have := h1.anti (f y) (f z)
          have := h1.anti (f z) (f y)
          omega
        rw [if_neg e3]; exact h1.trans _ _ _ k1 k2
  eq x y e := by
    simp only [lex2] at e
    by_cases e1 : c1 (f x) (f y) = 0
    · rw [if_pos e1] at e; exact inj _ _ (h1.eq _ _ e1) (h2.eq _ _ e)
    · rw [if_neg e1] at e; exact absurd e e1
theorem orI2 (a b : Int) : orI [a, b] = if a = 0 then b else a := by
  simp only [orI]
  by_cases h : b = 0 <;> simp [h]
theorem cmpTk_ok : CmpOk cmpTk := by
  have : cmpTk = lex2 (fun x y : Tk => Lib.compareInt x.1 y.1) (fun x y : Tk => Lib.compareInt x.2 y.2) := by
    funext x y; rw [cmpTk, orI2]; rfl
  rw [this]
  exact lex2_ok _ _ compareInt_ok compareInt_ok fun x y h1 h2 => Prod.ext h1 h2
theorem cmpTs_ok : CmpOk cmpTs := by
  have : cmpTs = lexL cmpTk := by
    funext x y
    induction x generalizing y with
    | nil => cases y <;> rfl
    | cons a ar ih => cases y with
      | nil => rfl
      | cons b br => simp only [cmpTs, lexL]; rw [ih]
  rw [this]; exact lexL_ok cmpTk_ok
def cmpU (a b : UInt8) : Int := if a < b then -1 else if b < a then 1 else 0
theorem cmpU_ok : CmpOk cmpU := by
  have e : ∀ a b : UInt8, cmpU a b = Lib.compareInt a.toNat b.toNat := fun a b => by
    have h1 : (a < b) = ((a.toNat : Int) < b.toNat) := by rw [UInt8.lt_iff_toNat_lt]; simp
    have h2 : (b < a) = ((b.toNat : Int) < a.toNat) := by rw [UInt8.lt_iff_toNat_lt]; simp
    unfold cmpU Lib.compareInt
    simp only [h1, h2, gt_iff_lt]
  exact ⟨fun x y => by rw [e, e]; exact compareInt_ok.anti _ _, fun x y z => by rw [e, e, e]; exact compareInt_ok.trans _ _ _, fun x y h => by
    rw [e] at h
    have := compareInt_ok.eq _ _ h
    exact UInt8.toNat_inj.1 (by omega)⟩
theorem compareBytes_ok : CmpOk Lib.compareBytes := by
  have : Lib.compareBytes = lexL cmpU := by
    funext x y
    induction x generalizing y with
    | nil => cases y <;> rfl
    | cons a ar ih => cases y with
      | nil => rfl
      | cons b br =>
        simp only [Lib.compareBytes, lexL]
        rw [ih]
        unfold cmpU
        by_cases h1 : a < b
        · simp [h1]
        · by_cases h2 : b < a
          · simp [h1, h2]
          · simp [h1, h2]
  rw [this]; exact lexL_ok cmpU_ok
theorem cmpEn_ok : CmpOk cmpEn := by
  have : cmpEn = lex2 (fun x y : En => Lib.compareBytes x.2 y.2) (fun x y : En => cmpTs x.1 y.1) := by
    funext x y; rw [cmpEn, orI2]; rfl
  rw [this]
  exact lex2_ok _ _ compareBytes_ok cmpTs_ok fun x y h1 h2 => Prod.ext h2 h1
end Go.Proofs.YthldgioggjpnpaaGreat.Old

namespace Go.Proofs.YthldgioggjpnpaaGreat.Old
open Go.RowKit

/-- all that lay in w lies in w' unturned, and no draw is taken back -/
structure ExtD (w w' : World) : Prop where
  ext : Ext w w'
  dr : w.drawn ≤ w'.drawn
theorem ExtD.refl (w : World) : ExtD w w := ⟨Ext.refl w, Nat.le_refl _⟩
theorem ExtD.trans {a b c : World} (h : ExtD a b) (k : ExtD b c) : ExtD a c := ⟨h.ext.trans k.ext, Nat.le_trans h.dr k.dr⟩
theorem ExtD.drew {a w : World} (h : ExtD a w) : ExtD a w.drew := ⟨h.ext.drew, Nat.le_succ_of_le h.dr⟩
theorem ExtD.drewN {a w : World} (h : ExtD a w) (n : Nat) : ExtD a (w.drewN n) := ⟨h.ext.drewN n, Nat.le_trans h.dr (by simp [World.drewN])⟩
theorem ExtD.alloc {a w : World} (h : ExtD a w) (o : Obj) : ExtD a (w.alloc o) := ⟨h.ext.alloc o, h.dr⟩
theorem ExtD.size {a w : World} (h : ExtD a w) : a.heap.size ≤ w.heap.size := h.ext.size
theorem ExtD.cell {w w' : World} (h : ExtD w w') {p : Addr} {u : Value} (hc : w.cell? p = some u) : w'.cell? p = some u := h.ext.cell hc
end Go.Proofs.YthldgioggjpnpaaGreat.Old

namespace Go.Proofs.YthldgioggjpnpaaGreat.Old
open Go.RowKit

theorem RdE.one {w : World} {g : Nat} {q : Value} {x : En} (hg : g < w.heap.size) (h0 : w.cell? ⟨g, 0, none⟩ = some q) (h1 : w.cell? ⟨g, 1, none⟩ = some (encS x.2)) (hq : RdT w q x.1) (hx : x.2.length ≤ maxLen) :
    RdE w (.slice (some ⟨g, 0, none⟩) 1 1) [x] :=
  ⟨_, _, _, rfl, rfl, Nat.le_refl _, by unfold maxLen; omega, fun _ => ⟨g, 0, rfl, hg, fun j e hj => by
    have hj0 : j = 0 := by have := (List.getElem?_eq_some_iff.1 hj).1; simp at this; exact this
    subst hj0
    simp only [List.getElem?_cons_zero, Option.some.injEq] at hj
    subst hj
    exact ⟨q, by simpa using h0, by simpa using h1, hq, hx⟩⟩⟩

/-- an entry with the value under which its clock reads -/
abbrev QE := Value × En
def encQE (p : QE) : List Value := [p.1, encS p.2.2]
def goodQ (w : World) (p : QE) : Prop := (∃ A n c, p.1 = .slice A n c) ∧ RdT w p.1 p.2.1 ∧ p.2.2.length ≤ maxLen
theorem goodQ.ext {w w' : World} {p : QE} (h : goodQ w p) (he : Ext w w') : goodQ w' p := ⟨h.1, h.2.1.ext he, h.2.2⟩

/-- a row of the call's own that reads as entries, their clocks in memory that lay in w0 -/
structure OwnE (w0 w : World) (v : Value) (l : List QE) : Prop where
  own : OwnN w w0.heap.size 64 2 encQE v l
  ext : Ext w0 w
  good : ∀ p ∈ l, goodQ w0 p

theorem OwnE.rd {w0 w : World} {v : Value} {l : List QE} (h : OwnE w0 w v l) : RdE w v (l.map (·.2)) := by
  obtain ⟨A, n, c, hv, hl, h1, h2, h3⟩ := h.own.rd (fun _ => rfl)
  refine ⟨A, n, c, hv, by simpa using hl, h1, h2, fun hn => ?_⟩
  obtain ⟨b, hA, hb, hc⟩ := h3 hn
  refine ⟨b, 0, hA, hb, fun j e hj => ?_⟩
  rw [List.getElem?_map] at hj
  cases hp : l[j]? with
  | none => rw [hp] at hj; cases hj
  | some p =>
    rw [hp] at hj
    cases hj
    have hg := h.good p (List.mem_of_getElem? hp)
    refine ⟨p.1, ?_, ?_, hg.2.1.ext h.ext, hg.2.2⟩
    · simpa using hc j p hp 0 _ rfl
    · simpa [Nat.add_assoc] using hc j p hp 1 _ rfl

section sorted
open Go.Sort Go.Shelf

theorem ExtD.grown {w w' : World} (h : ExtD w w') : ∃ q os, w' = grow (w.drewN q) os := by
  obtain ⟨p, hp⟩ := regrown_of_below h.ext
  refine ⟨w'.drawn - w.drawn, p.os, ?_⟩
  have h2 := h.dr
  have h3 : w'.drawn = p.d := by rw [hp]; rfl
  rw [hp]
  simp only [grow, redrawn, World.drewN]
  congr 1
  show p.d = w.drawn + (p.d - w.drawn)
  omega

/-- the row of entries as the sort's elements -/
abbrev SE (w0 : World) : Type := { p : QE // goodQ w0 p }
instance (w0 : World) : Inhabited (SE w0) := ⟨⟨(.slice none 0 0, ([], [])), ⟨_, _, _, rfl⟩, ⟨none, 0, 0, rfl, rfl, Nat.le_refl _, Nat.zero_le _, fun h => absurd h (by omega)⟩, Nat.zero_le _⟩⟩
end sorted
end Go.Proofs.YthldgioggjpnpaaGreat.Old

namespace Go.Proofs.YthldgioggjpnpaaGreat.Old
open Go.RowKit

end Go.Proofs.YthldgioggjpnpaaGreat.Old

namespace Go.Proofs.YthldgioggjpnpaaGreat.Old
open Go.RowKit

end Go.Proofs.YthldgioggjpnpaaGreat.Old

namespace Go.Proofs.YthldgioggjpnpaaGreat.Old
open Go.RowKit

end Go.Proofs.YthldgioggjpnpaaGreat.Old

namespace Go.Proofs.YthldgioggjpnpaaGreat.Old
open Go.RowKit

/-- the copy so far: entries whose clocks are rows of the call's own -/
structure CopyE (w0 w : World) (v : Value) (l : List QE) : Prop where
  own : OwnN w w0.heap.size 64 2 encQE v l
  cl : ∀ p ∈ l, (∃ A n c, p.1 = .slice A n c) ∧ OwnN w w0.heap.size 40 2 encT p.1 p.2.1 ∧ p.2.2.length ≤ maxLen
theorem CopyE.ext {w0 w w' : World} {v : Value} {l : List QE} (h : CopyE w0 w v l) (he : Ext w w') : CopyE w0 w' v l := ⟨h.own.ext he, fun p hp => ⟨(h.cl p hp).1, (h.cl p hp).2.1.ext he, (h.cl p hp).2.2⟩⟩
theorem CopyE.far {w0 w : World} {v : Value} {l : List QE} (h : CopyE w0 w v l) {g i : Nat} {cs : Array Value} (hb : Blk w g 26 cs) (u : Value) : CopyE w0 (w.setCell ⟨g, i, none⟩ u) v l :=
  ⟨h.own.far hb (by decide) u, fun p hp => ⟨(h.cl p hp).1, (h.cl p hp).2.1.far hb (by decide) u, (h.cl p hp).2.2⟩⟩
theorem CopyE.rd {w0 w : World} {v : Value} {l : List QE} (h : CopyE w0 w v l) : RdE w v (l.map (·.2)) := by
  obtain ⟨A, n, c, hv, hl, h1, h2, h3⟩ := h.own.rd (fun _ => rfl)
  refine ⟨A, n, c, hv, by simpa using hl, h1, h2, fun hn => ?_⟩
  obtain ⟨b, hA, hb, hc⟩ := h3 hn
  refine ⟨b, 0, hA, hb, fun j e hj => ?_⟩
  rw [List.getElem?_map] at hj
  cases hp : l[j]? with
  | none => rw [hp] at hj; cases hj
  | some p =>
    rw [hp] at hj
    cases hj
    have hg := h.cl p (List.mem_of_getElem? hp)
    refine ⟨p.1, ?_, ?_, hg.2.1.rdN (fun _ => rfl), hg.2.2⟩
    · simpa using hc j p hp 0 _ rfl
    · simpa [Nat.add_assoc] using hc j p hp 1 _ rfl

end Go.Proofs.YthldgioggjpnpaaGreat.Old
