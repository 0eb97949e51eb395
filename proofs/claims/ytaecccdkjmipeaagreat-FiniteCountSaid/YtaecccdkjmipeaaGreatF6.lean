/-
  Contracts: ref14.Is, Bottom, Check, Lattice (seat r5).
  Contracts: finite.numbers, products, all: the elements of finite descriptions (seat r5).
-/
import Derived.Test.YtaecccdkjmipeaaGreatF5
import Derived.Test.YtaecccdkjmipeaaGreatA10
import Derived.Test.YtaecccdkjmipeaaGreatA6
import Derived.Test.YtaecccdkjmipeaaGreatB18
namespace Go.Proofs.YtaecccdkjmipeaaGreat
open Go.RowKit
end Go.Proofs.YtaecccdkjmipeaaGreat

namespace Go.Proofs.YtaecccdkjmipeaaGreat
open Go.RowKit
theorem okE_vals (l : List Val) : (l.map valC).all (okE 4) = true := okE_map (fun v => by rw [valC_eq]; rfl) l
theorem fzs_vals (l : List Val) : ∀ e ∈ l.map valC, fzs e = some e := fz_map (fun v => by rw [valC_eq]; rfl) l
theorem big_vals (l : List Val) : (l.map valC).flatten.all big1 = true := big_fz (fzs_vals l)
theorem in_fz {Ho : List (Nat × AObj)} {es : List (List AV)} (h : ∀ e ∈ es, fzs e = some e) : es.flatten.all (inH1 Ho) = true := by
 refine List.all_eq_true.2 fun x hx => ?_
 obtain ⟨e, he, hxe⟩ := List.mem_flatten.1 hx
 obtain ⟨i, hi⟩ := List.getElem?_of_mem hxe
 have := (fzs_spec (h e he)).2 i x x hi hi
 cases x with
 | sl es tk => cases tk with
  | none => rfl
  | some o => simp [AV.fz1] at this
 | ptr o off => simp [AV.fz1] at this
 | own o n => simp [AV.fz1] at this
 | eptr o n off => simp [AV.fz1] at this
 | agg => simp [AV.fz1] at this
 | tup => simp [AV.fz1] at this
 | fn => simp [AV.fz1] at this
 | _ => rfl
theorem ok_vals {L : Nat} {te : TypeId} (l : List Val) : okObj L (.arr te 4 (l.map valC)) = true := ok_arr (f := valC) (fun v => by rw [valC_eq]; rfl) l
/-- what a function that returns a new row of values and true is said to do -/
abbrev GV (f : FuncId) (args : List AV) (l : List Val) (q m : Nat) : Prop := GX Tryz.prog f args [] (.tup [.own q l.length, bl true]) [(q, .arr 30 4 (l.map valC))] m
/-- the new row's number does not matter -/
theorem gv_norm {f : FuncId} {args : List AV} {l : List Val} {q m : Nat} (h : GV f args l q m) : GV f args l 0 1 := fun c vs hg hvl hv => by
 refine (h c vs hg hvl hv).mono ?_
 rintro e w' ⟨v, c', rfl, rfl, go, hvr⟩
 have big : ∀ o, c.K o → o ≠ 0 := fun o hk e => by have := hg.big o hk; subst e; exact absurd this (by unfold idB; decide)
 obtain ⟨hKq, u, hVq, hor, hbl⟩ := go.live q _ (look_self _ _ _)
 obtain ⟨V', hV'⟩ : ∃ V' : Nat → Option Value, V' = fun o => if o = 0 then c'.V q else none := ⟨_, rfl⟩
 have hV0 : V' 0 = some u := by rw [hV']; simpa using hVq
 have hVn : ∀ o, o ≠ 0 → V' o = none := fun o ho => by rw [hV']; simp [ho]
 refine ⟨v, ⟨c'.w, c'.S, V', fun o => c.K o ∨ o < 1⟩, rfl, rfl, ?_, ?_⟩
 ·exact {
   os := go.os, tape := go.tape, output := go.output, drawn := go.drawn, size := go.size, frame := go.frame
   le := ⟨go.le.S, fun _ h => .inl h, fun o hk => .inr (.inl (hVn o (big o hk)))⟩
   K := fun _ => Iff.rfl, Snew := go.Snew, Ssz := go.Ssz
   live := fun o ob ho => by
    rw [look_cons] at ho
    split at ho
    ·rename_i e0
     cases ho; subst e0
     refine ⟨.inr (Nat.lt_succ_self 0), u, hV0, ?_, hbl⟩
     cases hor with
     | arr _ _ _ _ xs hown hk hx hS =>
      refine .arr u _ 4 _ xs hown hk (fun i y x hi hx' => .fr _ _ ?_) hS
      obtain ⟨e', he', hxe⟩ := List.mem_flatten.1 (List.mem_of_getElem? hx')
      obtain ⟨j, hj⟩ := List.getElem?_of_mem hxe
      exact (hx i y x hi hx').fz1 ((fzs_spec (fzs_vals l e' he')).2 j x x hj hj)
    cases ho
   dead := fun o ho => by
    rw [look_cons] at ho
    split at ho
    ·cases ho
    rename_i e0; exact hVn o e0
   apart := fun o o' x y b h1 h2 h3 h4 => by
    by_cases e1 : o = 0
    ·by_cases e2 : o' = 0
     ·rw [e1, e2]
     have h2 : V' o' = some y := h2
     rw [hVn o' e2] at h2; cases h2
    have h1 : V' o = some x := h1
    rw [hVn o e1] at h1; cases h1 }
 cases hvr with
 | fr _ _ h => cases h with
  | tup vs _ hl h =>
   have h0 : ∃ z, vs[0]? = some z := ⟨_, List.getElem?_eq_getElem (by rw [hl]; simp)⟩
   obtain ⟨z, hz⟩ := h0
   have := h 0 z _ hz rfl
   cases this
 | tup vs _ hl h =>
  refine .tup vs _ hl fun i y x hi hj => ?_
  match i, hj with
  | 0, hj =>
   cases hj
   have h5 := h 0 y _ hi rfl
   cases h5 with
   | fr _ _ h => cases h
   | own _ _ _ hK hV =>
    refine .own _ _ _ (.inr (Nat.lt_succ_self 0)) fun A n' cap hh => hV A n' cap ?_
    have hh : V' 0 = _ := hh
    rw [hV0] at hh; rw [hVq]; exact hh
  | 1, hj =>
   cases hj
   have h5 := h 1 y _ hi rfl
   exact .fr _ _ (by rw [h5.p_inv]; exact .p _)
  | i + 2, hj => simp at hj
theorem ren_arr {ρ : List (Nat × Nat)} {q : Nat} {te : TypeId} {k : Nat} {es : List (List AV)} (h : ∀ e ∈ es, fzs e = some e) : [(q, AObj.arr te k es)].map (fun p => (rn ρ p.1, ren2 ρ p.2)) = [(rn ρ q, .arr te k es)] := by
 simp only [List.map_cons, List.map_nil, ren2, ren_id h]
/-- the numbers from lo on -/
def numsV (lo : Int) (n : Nat) : List Val := (List.range n).map fun i : Nat => .mk (lo + (i : Int)) [] [] []
theorem numsV_succ (lo : Int) (n : Nat) : numsV lo (n + 1) = numsV lo n ++ [.mk (lo + n) [] [] []] := by
 unfold numsV; rw [List.range_succ, List.map_append]; rfl
theorem numsV_len (lo : Int) (n : Nat) : (numsV lo n).length = n := by simp [numsV]
set_option maxRecDepth 100000 in
set_option maxHeartbeats 1000000 in
theorem numbers_gx (lo hi : Int) (N : Nat) (h1 : hi - lo + 1 = (N : Int)) (h2 : N ≤ 256) (h3 : -1000000000 ≤ lo) (h4 : hi ≤ 1000000000) : GV 69 [i64 lo, i64 hi] (numsV lo N) 0 1 := by
 refine gx_of_awp [4, 5] Tryz.func69 rfl rfl 24 Tryz.ntmps69 (Nat.le_of_ble_eq_true rfl) ?_
 intro E hN
 refine rn10 ?_; refine zP (q_subi rfl rfl rfl (by omega)) ?_
 refine zP (q_binb (b := false) rfl rfl rfl (by simp; omega)) ?_
 refine zN ?_; refine c_false rfl rfl ?_; refine rn12 ?_; refine awp_weak (weak_own rfl 6 30 4 rfl) ?_
 refine awp_loop (fun x : {k : Nat // k ≤ N ∧ True} => ⟨[(0, i64 lo), (1, i64 hi), (6, .own 0 x.1), (7, i64 (lo + (x.1 : Nat)))], [(0, .arr 30 4 ((numsV lo x.1).map valC))], 1⟩) (fun x => N - x.1) (⟨0, Nat.zero_le _, by trivial⟩) ?_ ?_
 ·
  exact weak_scrub' rfl (zz3 ⟨(cgI (by dsimp only; omega)), rfl, trivial⟩) ⟨rfl, rfl, (ok_vals _), trivial⟩
 rintro ⟨k, hk, gk⟩
 dsimp only
 refine rn7 ?_
 refine zq ?_ ?_ <;> intro h8
 ·
  have ltk : k < N := by have := of_decide_eq_true h8; omega
  refine rn7 ?_; refine zP (q_bslice rfl rfl rfl rfl (by exact rfl) (by decide) (by decide)) ?_
  refine s_append_own hN rfl rfl rfl (by simp [numsV_len]) rfl rfl (by rfl) (by simp [numsV_len, chunkA]; omega) rfl rfl rfl rfl ?_
  refine rn4 ?_; refine zP (q_addi rfl rfl rfl (by omega)) ?_; refine zS ?_; refine aops_nil ?_
  exact ⟨⟨k + 1, ltk, trivial⟩, weak_scrub' rfl (zz3 ⟨(cgI (by dsimp only; omega)), rfl, trivial⟩) ⟨(cgA (by rw [numsV_succ, List.map_append, List.map_cons, valC_eq]; rfl)), rfl, (ok_vals _), trivial⟩, by dsimp only; omega⟩
 have gek : N ≤ k := by have := of_decide_eq_false h8; omega
 obtain rfl : N = k := by omega
 refine rn7 ?_; refine awp_ret ?_
 change (resX _ _).ntt = _ ∧ _
 refine ret_x rfl ?_ rfl rfl rfl ⟨rfl, rfl, ok_vals _, trivial⟩
 show AV.tup [.own 0 N, bl true] = _
 rw [numsV_len]
set_option maxRecDepth 100000 in
set_option maxHeartbeats 1000000 in
theorem allFlag_gx : GV 48 [.agg (latL (.mk 1 0 0 [] [] []))] (numsV 0 2) 1 2 := by
 refine gx_of_awp [2, 3] Tryz.func48 rfl rfl 91 Tryz.ntmps48 (Nat.le_of_ble_eq_true rfl) ?_
 intro E hN
 refine rn18 ?_; refine c_true rfl rfl ?_; refine zG ?_
 refine s_xcall hN [] (numbers_gx 0 1 2 rfl (by decide) (by decide) (by decide)) (.fn _ _ _ _ rfl rfl) rfl rfl rfl trivial rfl ⟨in_fz (fzs_vals _), trivial⟩ rfl (Hn := [(1, .arr 30 4 ((numsV 0 2).map valC))]) (ren_arr (fzs_vals _)) rfl rfl rfl rfl rfl rfl ?_
 refine rn5 ?_; refine awp_ret ?_
 change (resX _ _).ntt = _ ∧ _
 refine ret_x rfl ?_ rfl rfl rfl ⟨rfl, rfl, ok_vals _, trivial⟩
 rfl
set_option maxRecDepth 100000 in
set_option maxHeartbeats 1000000 in
theorem allMax_gx (lo hi : Int) (N : Nat) (h1 : hi - lo + 1 = (N : Int)) (h2 : N ≤ 256) (h3 : -1000000000 ≤ lo) (h4 : hi ≤ 1000000000) : GV 48 [.agg (latL (.mk 2 lo hi [] [] []))] (numsV lo N) 1 2 := by
 refine gx_of_awp [2, 3] Tryz.func48 rfl rfl 91 Tryz.ntmps48 (Nat.le_of_ble_eq_true rfl) ?_
 intro E hN
 refine rn18 ?_; refine c_false rfl rfl ?_; refine rn6 ?_; refine c_true rfl rfl ?_; refine zW ?_; refine c_true rfl rfl ?_; refine rn6 ?_
 refine s_xcall hN [] (numbers_gx lo hi N h1 h2 h3 h4) (.fn _ _ _ _ rfl rfl) rfl rfl rfl trivial rfl ⟨in_fz (fzs_vals _), trivial⟩ rfl (Hn := [(1, .arr 30 4 ((numsV lo N).map valC))]) (ren_arr (fzs_vals _)) rfl rfl rfl rfl rfl rfl ?_
 refine rn5 ?_; refine awp_ret ?_
 change (resX _ _).ntt = _ ∧ _
 refine ret_x rfl ?_ rfl rfl rfl ⟨rfl, rfl, ok_vals _, trivial⟩
 rfl
end Go.Proofs.YtaecccdkjmipeaaGreat
