/-
  Plain laws: the comparisons of clocks and entries are total orders.
-/
import Derived.Test.YthldgioggjpnpaaGreatR10
import Derived.Sort.Statements
namespace Go.Proofs.YthldgioggjpnpaaGreat
open Go.RowKit

structure CmpOk {α : Type} (c : α → α → Int) : Prop where
  anti : ∀ x y, c x y ≤ 0 ↔ 0 ≤ c y x
  trans : ∀ x y z, c x y ≤ 0 → c y z ≤ 0 → c x z ≤ 0
  eq : ∀ x y, c x y = 0 → x = y
theorem CmpOk.refl {α : Type} {c : α → α → Int} (h : CmpOk c) (x : α) : c x x = 0 := by
  have := h.anti x x
  omega
theorem CmpOk.zero {α : Type} {c : α → α → Int} (h : CmpOk c) {x y : α} (e : c x y = 0) : c y x = 0 := by
  obtain rfl := h.eq _ _ e
  exact e
theorem CmpOk.swo {α β : Type} {c : α → α → Int} (h : CmpOk c) (f : β → α) : Sort.SWO (fun x y : β => decide (c (f x) (f y) < 0)) where
  irrefl x := by simp [h.refl]
  trans x y z h1 h2 := by
    simp only [decide_eq_true_eq] at *
    have a1 := h.anti (f x) (f z)
    have a2 := h.anti (f z) (f x)
    have a3 := h.anti (f y) (f z)
    have a4 := h.anti (f z) (f y)
    by_cases hz : c (f z) (f x) ≤ 0
    · have := h.trans _ _ _ hz (show c (f x) (f y) ≤ 0 by omega)
      omega
    · omega
  ntrans x y z h1 h2 := by
    simp only [decide_eq_false_iff_not] at *
    have a1 := h.anti (f y) (f x)
    have a2 := h.anti (f z) (f y)
    have a3 := h.anti (f z) (f x)
    have := h.trans (f z) (f y) (f x) (by omega) (by omega)
    omega
def lex2 {α : Type} (c1 c2 : α → α → Int) (x y : α) : Int := if c1 x y = 0 then c2 x y else c1 x y

def lexL {α : Type} (c : α → α → Int) : List α → List α → Int
  | [], [] => 0
  | [], _ :: _ => -1
  | _ :: _, [] => 1
  | a :: ar, b :: br => if c a b = 0 then lexL c ar br else c a b
theorem lexL_ok {α : Type} {c : α → α → Int} (h : CmpOk c) : CmpOk (lexL c) where
  anti x y := by
    induction x generalizing y with
    | nil => cases y <;> simp [lexL]
    | cons a ar ih =>
      cases y with
      | nil => simp [lexL]
      | cons b br =>
        simp only [lexL]
        have a1 := h.anti a b
        have a2 := h.anti b a
        by_cases e : c a b = 0
        · rw [if_pos e, if_pos (h.zero e)]; exact ih br
        · have e2 : c b a ≠ 0 := fun e2 => e (h.zero e2)
          rw [if_neg e, if_neg e2]; exact a1
  trans x y z h1 h2 := by
    induction x generalizing y z with
    | nil => cases z <;> simp [lexL]
    | cons a ar ih =>
      cases y with
      | nil => simp [lexL] at h1
      | cons b br =>
        cases z with
        | nil => simp [lexL] at h2
        | cons d dr =>
          simp only [lexL] at *
          have t := h.trans a b d
          have t2 := h.trans b d a
          have t3 := h.trans d a b
          have p1 := h.anti a b
          have p2 := h.anti b a
          have p3 := h.anti b d
          have p4 := h.anti d b
          have p5 := h.anti a d
          have p6 := h.anti d a
          by_cases e1 : c a b = 0
          · obtain rfl := h.eq _ _ e1
            rw [if_pos e1] at h1
            by_cases e2 : c a d = 0
            · rw [if_pos e2] at h2 ⊢; exact ih _ _ h1 h2
            · rw [if_neg e2] at h2 ⊢; exact h2
          · rw [if_neg e1] at h1
            by_cases e2 : c b d = 0
            · obtain rfl := h.eq _ _ e2
              rw [if_neg e1]; exact h1
            · rw [if_neg e2] at h2
              have e3 : c a d ≠ 0 := by
                intro e3
                obtain rfl := h.eq _ _ e3
                omega
              rw [if_neg e3]; exact t h1 h2
  eq x y e := by
    induction x generalizing y with
    | nil => cases y <;> simp [lexL] at *
    | cons a ar ih =>
      cases y with
      | nil => simp [lexL] at e
      | cons b br =>
        simp only [lexL] at e
        by_cases e1 : c a b = 0
        · rw [if_pos e1] at e; rw [h.eq _ _ e1, ih _ e]
        · rw [if_neg e1] at e; exact absurd e e1
theorem compareInt_ok : CmpOk Lib.compareInt where
  anti x y := by unfold Lib.compareInt; split <;> split <;> (try split) <;> omega
  trans x y z := by unfold Lib.compareInt; split <;> split <;> (try split) <;> (try split) <;> (try split) <;> omega
  eq x y := by unfold Lib.compareInt; split <;> (try split) <;> omega
theorem lex2_ok {α β γ : Type} {c1 : β → β → Int} {c2 : γ → γ → Int} (f : α → β) (g : α → γ) (h1 : CmpOk c1) (h2 : CmpOk c2) (inj : ∀ x y, f x = f y → g x = g y → x = y) :
    CmpOk (lex2 (fun x y => c1 (f x) (f y)) (fun x y => c2 (g x) (g y))) where
  anti x y := by
    simp only [lex2]
    have a1 := h1.anti (f x) (f y)
    have a2 := h1.anti (f y) (f x)
    by_cases e : c1 (f x) (f y) = 0
    · rw [if_pos e, if_pos (h1.zero e)]; exact h2.anti _ _
    · have e2 : c1 (f y) (f x) ≠ 0 := fun e2 => e (h1.zero e2)
      rw [if_neg e, if_neg e2]; exact a1
  trans x y z k1 k2 := by
    simp only [lex2] at *
    by_cases e1 : c1 (f x) (f y) = 0
    · have q := h1.eq _ _ e1
      rw [if_pos e1] at k1
      rw [q]
      by_cases e2 : c1 (f y) (f z) = 0
      · rw [if_pos e2] at k2 ⊢; exact h2.trans _ _ _ k1 k2
      · rw [if_neg e2] at k2 ⊢; exact k2
    · rw [if_neg e1] at k1
      by_cases e2 : c1 (f y) (f z) = 0
      · have q := h1.eq _ _ e2
        rw [← q, if_neg e1]; exact k1
      · rw [if_neg e2] at k2
        have e3 : c1 (f x) (f z) ≠ 0 := by
          intro e3
          have q := h1.eq _ _ e3
          rw [q] at k1 e1
          have := h1.anti (f y) (f z)
          have := h1.anti (f z) (f y)
          omega
        rw [if_neg e3]; exact h1.trans _ _ _ k1 k2
  eq x y e := by
    simp only [lex2] at e
    by_cases e1 : c1 (f x) (f y) = 0
    · rw [if_pos e1] at e; exact inj _ _ (h1.eq _ _ e1) (h2.eq _ _ e)
    · rw [if_neg e1] at e; exact absurd e e1
theorem orI2 (a b : Int) : orI [a, b] = if a = 0 then b else a := by
  simp only [orI]
  by_cases h : b = 0 <;> simp [h]
theorem cmpTk_ok : CmpOk cmpTk := by
  have : cmpTk = lex2 (fun x y : Tk => Lib.compareInt x.1 y.1) (fun x y : Tk => Lib.compareInt x.2 y.2) := by
    funext x y; rw [cmpTk, orI2]; rfl
  rw [this]
  exact lex2_ok _ _ compareInt_ok compareInt_ok fun x y h1 h2 => Prod.ext h1 h2
theorem cmpTs_ok : CmpOk cmpTs := by
  have : cmpTs = lexL cmpTk := by
    funext x y
    induction x generalizing y with
    | nil => cases y <;> rfl
    | cons a ar ih => cases y with
      | nil => rfl
      | cons b br => simp only [cmpTs, lexL]; rw [ih]
  rw [this]; exact lexL_ok cmpTk_ok
def cmpU (a b : UInt8) : Int := if a < b then -1 else if b < a then 1 else 0
theorem cmpU_ok : CmpOk cmpU := by
  have e : ∀ a b : UInt8, cmpU a b = Lib.compareInt a.toNat b.toNat := fun a b => by
    have h1 : (a < b) = ((a.toNat : Int) < b.toNat) := by rw [UInt8.lt_iff_toNat_lt]; simp
    have h2 : (b < a) = ((b.toNat : Int) < a.toNat) := by rw [UInt8.lt_iff_toNat_lt]; simp
    unfold cmpU Lib.compareInt
    simp only [h1, h2, gt_iff_lt]
  exact ⟨fun x y => by rw [e, e]; exact compareInt_ok.anti _ _, fun x y z => by rw [e, e, e]; exact compareInt_ok.trans _ _ _, fun x y h => by
    rw [e] at h
    have := compareInt_ok.eq _ _ h
    exact UInt8.toNat_inj.1 (by omega)⟩
theorem compareBytes_ok : CmpOk Lib.compareBytes := by
  have : Lib.compareBytes = lexL cmpU := by
    funext x y
    induction x generalizing y with
    | nil => cases y <;> rfl
    | cons a ar ih => cases y with
      | nil => rfl
      | cons b br =>
        simp only [Lib.compareBytes, lexL]
        rw [ih]
        unfold cmpU
        by_cases h1 : a < b
        · simp [h1]
        · by_cases h2 : b < a
          · simp [h1, h2]
          · simp [h1, h2]
  rw [this]; exact lexL_ok cmpU_ok
theorem cmpEn_ok : CmpOk cmpEn := by
  have : cmpEn = lex2 (fun x y : En => Lib.compareBytes x.2 y.2) (fun x y : En => cmpTs x.1 y.1) := by
    funext x y; rw [cmpEn, orI2]; rfl
  rw [this]
  exact lex2_ok _ _ compareBytes_ok cmpTs_ok fun x y h1 h2 => Prod.ext h2 h1
end Go.Proofs.YthldgioggjpnpaaGreat
