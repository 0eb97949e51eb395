/-
  Contracts: the merging of registers.
  Contracts: names.merge (Of's contract still to come).
  Contracts: Clone of names.
  Contracts: Compact at strictly ascending names.
-/
import Derived.Test.YtaecccdkjmipeaaGreatB8
import Derived.Test.YtaecccdkjmipeaaGreatA4
import Derived.Test.YtaecccdkjmipeaaGreatA6
import Derived.Test.YtaecccdkjmipeaaGreatB4
namespace Go.Proofs.YtaecccdkjmipeaaGreat
open Go.RowKit
def isBef (q : En) (x : En) : Bool := cmpC q.1 x.1 == 1
def keepB (b : List En) (x : En) : Bool := !coveredB b x
def keepA (a : List En) (q : En) : Bool := !a.any (isBef q)
def leEn (x y : En) : Bool := decide (cmpEn x y ≤ 0)
/-- what both know: what neither has overwritten -/
def mergedE (a b : List En) : List En := (a.filter (keepB b) ++ b.filter (keepA a)).mergeSort leEn
theorem sorted_one {l l2 : List En} (hp : l2.Perm l) (hs : l2.Pairwise (fun x y => 0 ≤ cmpEn y x)) : l2 = l.mergeSort leEn := by
 have hle : ∀ x y, leEn x y = true ↔ 0 ≤ cmpEn y x := fun x y => by simp [leEn, cmpEn_ok.anti x y]
 have h1 : l2.Pairwise (fun x y => leEn x y = true) := hs.imp (fun h => (hle _ _).2 h)
 have h2 : (l.mergeSort leEn).Pairwise (fun x y => leEn x y = true) := List.pairwise_mergeSort (fun x y z h1 h2 => by
   simp only [leEn, decide_eq_true_eq] at *
   exact cmpEn_ok.trans _ _ _ h1 h2) (fun x y => by
   have := cmpEn_ok.anti x y
   simp only [leEn, Bool.or_eq_true, decide_eq_true_eq]
   omega) l
 refine List.Perm.eq_of_pairwise (le := fun x y => leEn x y = true) (fun x y _ _ h3 h4 => ?_) h1 h2 (hp.trans (List.mergeSort_perm l leEn).symm)
 simp only [leEn, decide_eq_true_eq] at h3 h4
 have := cmpEn_ok.anti y x
 exact cmpEn_ok.eq _ _ (by omega)
theorem okE_en (e : En) : okE 2 (enC e) = true := rfl
theorem fzs_en (e : En) : fzs (enC e) = some (enC e) := rfl
theorem ok_arr {α : Type} {f : α → List AV} {L : Nat} {te : TypeId} {k : Nat} (h : ∀ x, (f x).all (okId L) = true) (l : List α) : okObj L (.arr te k (l.map f)) = true := by
 show ((l.map f).flatten).all (okId L) = true
 induction l with
 | nil => rfl
 | cons x l ih => rw [List.map_cons, List.flatten_cons, List.all_append, h, ih]; rfl
theorem ok_en (L : Nat) (e : En) : (enC e).all (okId L) = true := rfl
theorem chunk_en (e : En) : chunkA 2 1 (enC e) = [enC e] := rfl
theorem cgO {q n n' : Nat} (h : n = n') : some (AV.own q n) = some (AV.own q n') := by rw [h]
theorem cgA {te : TypeId} {k : Nat} {es es' : List (List AV)} (h : es = es') : some (AObj.arr te k es) = some (AObj.arr te k es') := by rw [h]
theorem ft_yes {q : En → Bool} {l : List En} {k : Nat} {x : En} (hx : l[k]? = some x) (h : q x = true) : (l.take (k + 1)).filter q = (l.take k).filter q ++ [x] := by
 rw [List.take_add_one, hx, List.filter_append]; simp [h]
theorem ft_no {q : En → Bool} {l : List En} {k : Nat} {x : En} (hx : l[k]? = some x) (h : q x = false) : (l.take (k + 1)).filter q = (l.take k).filter q := by
 rw [List.take_add_one, hx, List.filter_append]; simp [h]
theorem ft_len {q : En → Bool} {l : List En} {k : Nat} : ((l.take k).filter q).length ≤ l.length := Nat.le_trans (List.length_filter_le _ _) (by simp; omega)
theorem cmpVal_en (x y : En) : cmpVal (.mk 0 [] [] [x]) (.mk 0 [] [] [y]) = cmpEn x y := by
 rw [cmpVal_eq]
 simp only [Val.N, Val.nm, Val.ps, Val.es, lexL, Lib.compareInt]
 by_cases h : cmpEn x y = 0 <;> simp [orE, h]

set_option maxRecDepth 100000 in
set_option maxHeartbeats 1000000 in
theorem merged1_fc (q x : En) : FC Tryz.prog 186 [.agg (enC x), .el (enC q)] (bl (isBef q x)) := by
 refine fc_of_awp [3] Tryz.func186 rfl rfl 10 Tryz.ntmps186 (Nat.le_of_ble_eq_true rfl) ?_
 intro E hN
 refine rn11 ?_; refine zP (q_call (cmpC_fc _ _) rfl rfl rfl) ?_; refine rn2 ?_; refine zQ ?_
 rfl
set_option maxRecDepth 100000 in
set_option maxHeartbeats 1000000 in
theorem merged2_fc (x y : En) : FC Tryz.prog 189 [.agg (enC x), .agg (enC y)] (i64 (cmpEn x y)) := by
 refine fc_of_awp [4] Tryz.func189 rfl rfl 12 Tryz.ntmps189 (Nat.le_of_ble_eq_true rfl) ?_
 intro E hN
 refine rn9 ?_; refine zP (q_bslice rfl rfl rfl rfl (by exact rfl) (by decide) (by decide)) ?_; refine rn2 ?_
 refine zP (q_bslice rfl rfl rfl rfl (by exact rfl) (by decide) (by decide)) ?_; refine rn1 ?_
 refine zP (q_call (cmpVal_fc (.mk 0 [] [] [x]) (.mk 0 [] [] [y])) rfl rfl rfl) ?_; refine zS ?_; refine zQ ?_
 exact retI (cmpVal_en x y)
set_option maxRecDepth 100000 in
set_option maxHeartbeats 1000000 in
theorem merged_fc (a b : List En) (hab : a.length + b.length ≤ 1000000) : FC Tryz.prog 169 [ens a, ens b] (ens (mergedE a b)) := by
 refine fc_of_awp [4] Tryz.func169 rfl rfl 43 Tryz.ntmps169 (Nat.le_of_ble_eq_true rfl) ?_
 intro E hN
 refine rn16 ?_; refine awp_weak (weak_own rfl 5 88 2 rfl) ?_
 refine awp_loop (fun x : {k : Nat // k ≤ (a).length ∧ True} => ⟨[(0, ens a), (1, ens b), (10, ens a), (11, i64 a.length), (12, i64 (x.1 : Nat)), (5, .own 0 ((a.take x.1).filter (keepB b)).length)], [(0, .arr 88 2 (((a.take x.1).filter (keepB b)).map enC))], 1⟩) (fun x => (a).length - x.1) (⟨0, Nat.zero_le _, by simp⟩) ?_ ?_
 ·
  exact weak_scrub' rfl (zz3 ⟨(cgI (by simp)), rfl, (zz2 trivial)⟩) ⟨rfl, rfl, (ok_arr (ok_en _) _), trivial⟩
 rintro ⟨k, hk, hg⟩
 dsimp only
 refine a_lm 10 rfl (fun hl8 => ?_)
 refine rn5 ?_
 refine zq ?_ ?_ <;> intro h10
 ·
  have hlt : k < (a).length := by simpa using h10
  obtain ⟨x, hx⟩ := get_lt hlt
  refine rn5 ?_; refine zP (q_elem rfl rfl rfl k rfl _ (map_get hx) rfl) ?_; refine rn8 ?_; refine zP (q_call (covered_fc _ _) rfl rfl rfl) ?_
  refine rn2 ?_
  refine zq ?_ ?_ <;> intro h16
  ·
   have hkb : keepB b x = true := h16
   refine rn3 ?_; refine zP (q_bslice rfl rfl rfl rfl (by exact rfl) (by decide) (by decide)) ?_
   refine s_append_own hN rfl rfl rfl (by simp) rfl rfl rfl (by simp only [List.length_map, List.length_append, chunk_tk, List.length_singleton]; have := ft_len (q := keepB b) (l := a) (k := k); have := ft_len (q := keepA a) (l := b) (k := k);  omega) rfl rfl rfl rfl ?_
   refine rn3 ?_; refine zP (q_addi rfl rfl rfl (by omega)) ?_; refine zM ?_; refine aops_nil ?_
   exact ⟨⟨k + 1, hlt, trivial⟩, weak_scrub' rfl (zz4 ⟨(cgI (by dsimp only; omega)), rfl, (cgO (by first | (rw [ft_yes hx hkb]; simp [chunk_tk, enC] <;> omega) | rw [ft_no hx hkb])), rfl, trivial⟩) ⟨(cgA (by first | (rw [ft_yes hx hkb]; simp [chunk_tk, enC] <;> omega) | rw [ft_no hx hkb])), rfl, (ok_arr (ok_en _) _), trivial⟩, by dsimp only; omega⟩
  have hkb : keepB b x = false := h16
  refine rn2 ?_; refine zP (q_addi rfl rfl rfl (by omega)) ?_; refine zM ?_; refine aops_nil ?_
  exact ⟨⟨k + 1, hlt, trivial⟩, weak_scrub' rfl (zz4 ⟨(cgI (by dsimp only; omega)), rfl, (cgO (by first | (rw [ft_yes hx hkb]; simp [chunk_tk, enC] <;> omega) | rw [ft_no hx hkb])), rfl, trivial⟩) ⟨(cgA (by first | (rw [ft_yes hx hkb]; simp [chunk_tk, enC] <;> omega) | rw [ft_no hx hkb])), rfl, (ok_arr (ok_en _) _), trivial⟩, by dsimp only; omega⟩
 have hge : (a).length ≤ k := by simpa using h10
 refine rn9 ?_
 refine awp_loop (fun x : {k : Nat // k ≤ (b).length ∧ True} => ⟨[(0, ens a), (25, ens b), (26, i64 b.length), (27, i64 (x.1 : Nat)), (5, .own 0 (a.filter (keepB b) ++ (b.take x.1).filter (keepA a)).length)], [(0, .arr 88 2 ((a.filter (keepB b) ++ (b.take x.1).filter (keepA a)).map enC))], 1⟩) (fun x => (b).length - x.1) (⟨0, Nat.zero_le _, by simp⟩) ?_ ?_
 ·
  exact weak_scrub' rfl (zz2 ⟨(cgI (by simp)), rfl, rfl, rfl, (cgO (by rw [List.take_of_length_le hge]; simp)), rfl, trivial⟩) ⟨(cgA (by rw [List.take_of_length_le hge]; simp)), rfl, (ok_arr (ok_en _) _), trivial⟩
 rintro ⟨k, hk, hg⟩
 clear hge
 dsimp only
 refine a_lm 25 rfl (fun hl8 => ?_)
 refine rn5 ?_
 refine zq ?_ ?_ <;> intro h28
 ·
  have hlt : k < (b).length := by simpa using h28
  obtain ⟨x, hx⟩ := get_lt hlt
  refine rn5 ?_; refine zP (q_elem rfl rfl rfl k rfl _ (map_get hx) rfl) ?_; refine rn5 ?_; refine awp_weak (weak_freeze 9 1 rfl rfl rfl rfl) ?_
  refine rn2 ?_; refine zP (q_func rfl rfl) ?_; refine zP (q_call (anyFE_fc a (fun y _ => merged1_fc x y)) rfl rfl rfl) ?_; refine rn2 ?_
  refine zq ?_ ?_ <;> intro h34
  ·
   have hka : keepA a x = true := h34
   refine rn3 ?_; refine zP (q_bslice rfl rfl rfl rfl (by exact rfl) (by decide) (by decide)) ?_
   refine s_append_own hN rfl rfl rfl (by simp) rfl rfl rfl (by simp only [List.length_map, List.length_append, chunk_tk, List.length_singleton]; have := ft_len (q := keepB b) (l := a) (k := a.length); have := ft_len (q := keepA a) (l := b) (k := k); rw [List.take_length] at *; omega) rfl rfl rfl rfl ?_
   refine rn3 ?_; refine zP (q_addi rfl rfl rfl (by omega)) ?_; refine zM ?_; refine aops_nil ?_
   exact ⟨⟨k + 1, hlt, trivial⟩, weak_scrub' rfl (zz3 ⟨(cgI (by dsimp only; omega)), rfl, (cgO (by first | (rw [ft_yes hx hka]; simp [chunk_tk, enC] <;> omega) | rw [ft_no hx hka])), rfl, trivial⟩) ⟨(cgA (by first | (rw [ft_yes hx hka]; simp [chunk_tk, enC] <;> omega) | rw [ft_no hx hka])), rfl, (ok_arr (ok_en _) _), trivial⟩, by dsimp only; omega⟩
  have hka : keepA a x = false := h34
  refine rn2 ?_; refine zP (q_addi rfl rfl rfl (by omega)) ?_; refine zM ?_; refine aops_nil ?_
  exact ⟨⟨k + 1, hlt, trivial⟩, weak_scrub' rfl (zz3 ⟨(cgI (by dsimp only; omega)), rfl, (cgO (by first | (rw [ft_yes hx hka]; simp [chunk_tk, enC] <;> omega) | rw [ft_no hx hka])), rfl, trivial⟩) ⟨(cgA (by first | (rw [ft_yes hx hka]; simp [chunk_tk, enC] <;> omega) | rw [ft_no hx hka])), rfl, (ok_arr (ok_en _) _), trivial⟩, by dsimp only; omega⟩
 have hge : (b).length ≤ k := by simpa using h28
 refine rn2 ?_
 have hacc : (a.filter (keepB b) ++ (b.take k).filter (keepA a)) = a.filter (keepB b) ++ b.filter (keepA a) := by rw [List.take_of_length_le hge]
 refine rn2 ?_
 refine s_sort (sf := 188) hN shc_sortEn rfl (by decide) enC (a.filter (keepB b) ++ (b.take k).filter (keepA a)) cmpEn (fun g => cmpEn_ok.swo g) okE_en fzs_en Tryz.isAgg88 Tryz.sizeOf88 (fun x _ y _ => merged2_fc x y) rfl rfl rfl rfl (by have := ft_len (q := keepB b) (l := a) (k := a.length); have := ft_len (q := keepA a) (l := b) (k := k); rw [List.take_length] at *; simp only [List.length_append]; omega) rfl rfl rfl rfl (fun l2 hp hs2 => ?_)
 refine rn2 ?_
 refine awp_weak (weak_frow 5 0 rfl rfl (by simp [hp.length_eq]) (all_okE okE_en _) (fun e he => by obtain ⟨y, -, rfl⟩ := List.mem_map.1 he; exact fzs_en y) rfl) ?_
 refine rn3 ?_; refine zQ ?_
 exact retL (by rw [sorted_one hp hs2, hacc]; rfl)
end Go.Proofs.YtaecccdkjmipeaaGreat

namespace Go.Proofs.YtaecccdkjmipeaaGreat
open Go.RowKit
def putB (b : Bool) (x : Nm) (l : List Nm) : List Nm := if b then x :: l else l
def mrgN (lf bo ri : Bool) : Nat → List Nm → List Nm → List Nm
 | 0, _, _ => []
 | _ + 1, [], [] => []
 | f + 1, x :: r, [] => putB lf x (mrgN lf bo ri f r [])
 | f + 1, [], y :: s => putB ri y (mrgN lf bo ri f [] s)
 | f + 1, x :: r, y :: s => if Op.bytesLess x y then putB lf x (mrgN lf bo ri f r (y :: s)) else if Op.bytesLess y x then putB ri y (mrgN lf bo ri f (x :: r) s) else putB bo x (mrgN lf bo ri f r s)
section
variable (lf bo ri : Bool)
theorem mrgN_fuel : ∀ (f g : Nat) (a b : List Nm), a.length + b.length ≤ f → a.length + b.length ≤ g → mrgN lf bo ri f a b = mrgN lf bo ri g a b
 | 0, 0, _, _, _, _ => rfl
 | 0, g + 1, a, b, h1, _ => by
  have ha : a = [] := List.eq_nil_of_length_eq_zero (by omega)
  have hb : b = [] := List.eq_nil_of_length_eq_zero (by omega)
  subst ha hb; rfl
 | f + 1, 0, a, b, _, h2 => by
  have ha : a = [] := List.eq_nil_of_length_eq_zero (by omega)
  have hb : b = [] := List.eq_nil_of_length_eq_zero (by omega)
  subst ha hb; rfl
 | f + 1, g + 1, [], [], _, _ => rfl
 | f + 1, g + 1, x :: r, [], h1, h2 => by simp only [List.length_cons, List.length_nil] at h1 h2; simp only [mrgN]; rw [mrgN_fuel f g r [] (by simp; omega) (by simp; omega)]
 | f + 1, g + 1, [], y :: s, h1, h2 => by simp only [List.length_cons, List.length_nil] at h1 h2; simp only [mrgN]; rw [mrgN_fuel f g [] s (by simp; omega) (by simp; omega)]
 | f + 1, g + 1, x :: r, y :: s, h1, h2 => by
  simp only [List.length_cons] at h1 h2
  simp only [mrgN]
  rw [mrgN_fuel f g r (y :: s) (by simp; omega) (by simp; omega), mrgN_fuel f g (x :: r) s (by simp; omega) (by simp; omega), mrgN_fuel f g r s (by omega) (by omega)]
def mrgT (a b : List Nm) : List Nm := mrgN lf bo ri (a.length + b.length) a b
end
section
variable {lf bo ri : Bool} {x y : Nm} {r s : List Nm}
theorem mg_l : mrgT lf bo ri (x :: r) [] = putB lf x (mrgT lf bo ri r []) := by
 show mrgN lf bo ri (r.length + 1 + 0) (x :: r) [] = _
 rfl
theorem mg_r : mrgT lf bo ri [] (y :: s) = putB ri y (mrgT lf bo ri [] s) := by
 unfold mrgT
 rw [mrgN_fuel lf bo ri _ (s.length + 1) [] (y :: s) (by simp) (by simp), mrgN_fuel lf bo ri _ s.length [] s (by simp) (by simp)]
 rfl
theorem mg_lt (h : Op.bytesLess x y = true) : mrgT lf bo ri (x :: r) (y :: s) = putB lf x (mrgT lf bo ri r (y :: s)) := by
 unfold mrgT
 rw [mrgN_fuel lf bo ri _ (r.length + (s.length + 1) + 1) (x :: r) (y :: s) (Nat.le_refl _) (by simp only [List.length_cons]; omega), mrgN, if_pos h]
 rfl
theorem mg_gt (h : Op.bytesLess x y = false) (h2 : Op.bytesLess y x = true) : mrgT lf bo ri (x :: r) (y :: s) = putB ri y (mrgT lf bo ri (x :: r) s) := by
 unfold mrgT
 rw [mrgN_fuel lf bo ri _ (r.length + 1 + s.length + 1) (x :: r) (y :: s) (Nat.le_refl _) (by simp only [List.length_cons]; omega), mrgN, if_neg (by simp [h]), if_pos h2]
 rfl
theorem mg_eq (h : Op.bytesLess x y = false) (h2 : Op.bytesLess y x = false) : mrgT lf bo ri (x :: r) (y :: s) = putB bo x (mrgT lf bo ri r s) := by
 unfold mrgT
 rw [mrgN_fuel lf bo ri _ (r.length + s.length + 1 + 1) (x :: r) (y :: s) (Nat.le_refl _) (by simp only [List.length_cons]; omega), mrgN, if_neg (by simp [h]), if_neg (by simp [h2]), mrgN_fuel lf bo ri _ (r.length + s.length) r s (by omega) (by omega)]
theorem pb_yes {b : Bool} {x : Nm} {l acc u : List Nm} (h : b = true) (hg : acc ++ putB b x l = u) : (acc ++ [x]) ++ l = u := by
 rw [← hg, putB, if_pos h]; simp
theorem pb_no {b : Bool} {x : Nm} {l acc u : List Nm} (h : b = false) (hg : acc ++ putB b x l = u) : acc ++ l = u := by
 rw [← hg, putB, if_neg (by simp [h])]
theorem okE_nm (s : Nm) : okE 1 (sv1 s) = true := rfl
theorem chunk_1 (x : AV) : chunkA 1 1 [x] = [[x]] := rfl
end

set_option maxRecDepth 100000 in
set_option maxHeartbeats 1000000 in
theorem merge_s (hof : ∀ l : List Nm, sortedB l = true → l.length ≤ 1000000 → FC Tryz.prog 192 [svs l] (svs l)) (a b : List Nm) (ha : sortedB a = true) (hb0 : sortedB b = true) (hab : a.length + b.length ≤ 1000000) (lf bo ri : Bool) : FC Tryz.prog 179 [svs a, svs b, bl lf, bl bo, bl ri] (svs (mrgT lf bo ri a b)) := by
 refine fc_of_awp [10] Tryz.func179 rfl rfl 87 Tryz.ntmps179 (Nat.le_of_ble_eq_true rfl) ?_
 intro E hN
 refine rn7 ?_; refine zP (q_call (hof a ha (by omega)) rfl rfl rfl) ?_; refine zM ?_; refine zP (q_call (hof b hb0 (by omega)) rfl rfl rfl) ?_
 refine rn9 ?_; refine awp_weak (weak_tok rfl 13 9 1 rfl) ?_
 refine awp_loop (fun x : {q : List Nm × List Nm × List Nm // q.2.2 ++ mrgT lf bo ri q.1 q.2.1 = mrgT lf bo ri a b ∧ q.2.2.length + q.1.length + q.2.1.length ≤ a.length + b.length} => ⟨[(2, bl lf), (3, bl bo), (4, bl ri), (11, svs x.1.1), (12, svs x.1.2.1), (13, .sl (x.1.2.2.map sv1) (some 0))], [(0, .tok 9 1 x.1.2.2.length)], 1⟩) (fun x => x.1.1.length + x.1.2.1.length) (⟨(a, b, []), rfl, by simp⟩) ?_ ?_
 ·
  exact weak_scrub' rfl (zz4 (zz2 trivial)) ⟨rfl, rfl, rfl, trivial⟩
 rintro ⟨⟨u, v, acc⟩, hg, hlen⟩
 dsimp only at hg hlen ⊢
 rcases u with _ | ⟨x, r⟩ <;> rcases v with _ | ⟨y, s⟩
 ·
  skip
  refine rn5 ?_
  refine zP (q_binb (b := false) rfl rfl rfl (by simp <;> omega)) ?_
  refine rn3 ?_
  refine zP (q_binb (b := false) rfl rfl rfl (by simp <;> omega)) ?_
  refine zh0 rfl ?_; refine zN ?_; refine c_false rfl rfl ?_; refine rn5 ?_; refine zQ ?_
  exact retL (by rw [← hg]; simp [mrgT, mrgN])
 ·
  skip
  refine rn5 ?_
  refine zP (q_binb (b := false) rfl rfl rfl (by simp <;> omega)) ?_
  refine rn3 ?_
  refine zP (q_binb (b := true) rfl rfl rfl (by simp <;> omega)) ?_
  refine zh0 rfl ?_; refine zN ?_; refine c_true rfl rfl ?_; refine rn4 ?_; refine awp_draw 17 (by kernel_rfl) (by kernel_rfl) ?_; refine rn2 ?_
  refine zp (q_binb (b := false) rfl rfl rfl (by simp <;> omega)) ?_
  refine rn3 ?_
  refine zp (q_binb (b := false) rfl rfl rfl (by simp <;> omega)) ?_
  refine rn8 ?_; refine zp (q_pick0 rfl rfl rfl rfl) ?_; refine zp (q_pick0 rfl rfl rfl rfl) ?_; change AOps _ _ _ _ _ _; refine zT ?_
  refine c_false rfl rfl ?_; refine rn1 ?_; refine awp_draw 12 (by kernel_rfl) (by kernel_rfl) ?_; refine rn2 ?_
  refine zp (q_binb (b := true) rfl rfl rfl (by simp <;> omega)) ?_
  refine rn8 ?_; refine zp (q_pick1 rfl rfl rfl rfl) ?_; change AOps _ _ _ _ _ _; refine zT ?_; refine c_true rfl rfl ?_; refine rn5 ?_
  refine zq ?_ ?_ <;> intro h10
  ·
   have hb := h10
   refine rn3 ?_; refine zP (q_elem rfl rfl rfl 0 rfl _ rfl rfl) ?_; refine zL ?_
   refine zP (q_bslice rfl rfl rfl rfl (by exact rfl) (by decide) (by decide)) ?_
   refine s_append_tok hN rfl rfl rfl (by simp) rfl rfl (all_okE okE_nm _) rfl (by simp [chunk_1] at hlen ⊢ <;> omega) rfl rfl rfl rfl ?_
   refine rn4 ?_; refine zP (q_from rfl rfl rfl 1 rfl (by simp) (by exact fun _ => rfl)) ?_; refine zS ?_; refine aops_nil ?_
   exact ⟨⟨([], s, acc ++ [y]), pb_yes hb (by rw [← hg, mg_r]), by simp at hlen ⊢ <;> omega⟩, weak_scrub' rfl (zz4 (zz1 ⟨(cgL (by simp [sv1, chunk_1])), rfl, trivial⟩)) ⟨(cgT (by simp [chunk_1])), rfl, rfl, trivial⟩, by simp <;> omega⟩
  have hb := h10
  refine rn3 ?_; refine zP (q_from rfl rfl rfl 1 rfl (by simp) (by exact fun _ => rfl)) ?_; refine zS ?_; refine aops_nil ?_
  exact ⟨⟨([], s, acc), pb_no hb (by rw [← hg, mg_r]), by simp at hlen ⊢ <;> omega⟩, weak_scrub' rfl (zz4 (zz1 ⟨(cgL (by simp [sv1, chunk_1])), rfl, trivial⟩)) ⟨(cgT (by simp [chunk_1])), rfl, rfl, trivial⟩, by simp <;> omega⟩
 ·
  skip
  refine rn5 ?_
  refine zP (q_binb (b := true) rfl rfl rfl (by simp <;> omega)) ?_
  refine rn4 ?_; refine zh1 rfl ?_; refine zN ?_; refine c_true rfl rfl ?_; refine rn4 ?_; refine awp_draw 17 (by kernel_rfl) (by kernel_rfl) ?_
  refine rn2 ?_
  refine zp (q_binb (b := true) rfl rfl rfl (by simp <;> omega)) ?_
  refine rn13 ?_; refine zp (q_pick1 rfl rfl rfl rfl) ?_; change AOps _ _ _ _ _ _; refine zT ?_; refine c_true rfl rfl ?_; refine rn5 ?_
  refine zq ?_ ?_ <;> intro h8
  ·
   have hb := h8
   refine rn3 ?_; refine zP (q_elem rfl rfl rfl 0 rfl _ rfl rfl) ?_; refine zL ?_
   refine zP (q_bslice rfl rfl rfl rfl (by exact rfl) (by decide) (by decide)) ?_
   refine s_append_tok hN rfl rfl rfl (by simp) rfl rfl (all_okE okE_nm _) rfl (by simp [chunk_1] at hlen ⊢ <;> omega) rfl rfl rfl rfl ?_
   refine rn4 ?_; refine zP (q_from rfl rfl rfl 1 rfl (by simp) (by exact fun _ => rfl)) ?_; refine zS ?_; refine aops_nil ?_
   exact ⟨⟨(r, [], acc ++ [x]), pb_yes hb (by rw [← hg, mg_l]), by simp at hlen ⊢ <;> omega⟩, weak_scrub' rfl (zz4 (zz1 ⟨(cgL (by simp [sv1, chunk_1])), rfl, trivial⟩)) ⟨(cgT (by simp [chunk_1])), rfl, rfl, trivial⟩, by simp <;> omega⟩
  have hb := h8
  refine rn3 ?_; refine zP (q_from rfl rfl rfl 1 rfl (by simp) (by exact fun _ => rfl)) ?_; refine zS ?_; refine aops_nil ?_
  exact ⟨⟨(r, [], acc), pb_no hb (by rw [← hg, mg_l]), by simp at hlen ⊢ <;> omega⟩, weak_scrub' rfl (zz4 (zz1 ⟨(cgL (by simp [sv1, chunk_1])), rfl, trivial⟩)) ⟨(cgT (by simp [chunk_1])), rfl, rfl, trivial⟩, by simp <;> omega⟩
 skip
 refine rn5 ?_
 refine zP (q_binb (b := true) rfl rfl rfl (by simp <;> omega)) ?_
 refine rn4 ?_; refine zh1 rfl ?_; refine zN ?_; refine c_true rfl rfl ?_; refine rn4 ?_; refine awp_draw 17 (by kernel_rfl) (by kernel_rfl) ?_
 refine rn2 ?_
 refine zp (q_binb (b := false) rfl rfl rfl (by simp <;> omega)) ?_
 refine rn3 ?_
 refine zp (q_binb (b := true) rfl rfl rfl (by simp <;> omega)) ?_
 refine rn2 ?_; refine zp (q_elem rfl rfl rfl 0 rfl _ rfl rfl) ?_; refine rn2 ?_; refine zp (q_elem rfl rfl rfl 0 rfl _ rfl rfl) ?_; refine rn2 ?_
 refine zp (q_pick1 rfl rfl rfl rfl) ?_; refine zp (q_pick0 rfl rfl rfl rfl) ?_; change AOps _ _ _ _ _ _; refine zT ?_
 refine zq ?_ ?_ <;> intro h42
 ·
  have hLt := h42
  refine rn5 ?_
  refine zq ?_ ?_ <;> intro h8
  ·
   have hb := h8
   refine rn3 ?_; refine zP (q_elem rfl rfl rfl 0 rfl _ rfl rfl) ?_; refine zL ?_
   refine zP (q_bslice rfl rfl rfl rfl (by exact rfl) (by decide) (by decide)) ?_
   refine s_append_tok hN rfl rfl rfl (by simp) rfl rfl (all_okE okE_nm _) rfl (by simp [chunk_1] at hlen ⊢ <;> omega) rfl rfl rfl rfl ?_
   refine rn4 ?_; refine zP (q_from rfl rfl rfl 1 rfl (by simp) (by exact fun _ => rfl)) ?_; refine zS ?_; refine aops_nil ?_
   exact ⟨⟨(r, y :: s, acc ++ [x]), pb_yes hb (by rw [← hg, mg_lt hLt]), by simp at hlen ⊢ <;> omega⟩, weak_scrub' rfl (zz4 (zz1 ⟨(cgL (by simp [sv1, chunk_1])), rfl, trivial⟩)) ⟨(cgT (by simp [chunk_1])), rfl, rfl, trivial⟩, by simp <;> omega⟩
  have hb := h8
  refine rn3 ?_; refine zP (q_from rfl rfl rfl 1 rfl (by simp) (by exact fun _ => rfl)) ?_; refine zS ?_; refine aops_nil ?_
  exact ⟨⟨(r, y :: s, acc), pb_no hb (by rw [← hg, mg_lt hLt]), by simp at hlen ⊢ <;> omega⟩, weak_scrub' rfl (zz4 (zz1 ⟨(cgL (by simp [sv1, chunk_1])), rfl, trivial⟩)) ⟨(cgT (by simp [chunk_1])), rfl, rfl, trivial⟩, by simp <;> omega⟩
 have hLt := h42
 refine rn1 ?_; refine awp_draw 12 (by kernel_rfl) (by kernel_rfl) ?_; refine rn2 ?_
 refine zp (q_binb (b := false) rfl rfl rfl (by simp <;> omega)) ?_
 refine rn2 ?_; refine zp (q_elem rfl rfl rfl 0 rfl _ rfl rfl) ?_; refine rn2 ?_; refine zp (q_elem rfl rfl rfl 0 rfl _ rfl rfl) ?_; refine rn2 ?_
 refine zp (q_pick0 rfl rfl rfl rfl) ?_; change AOps _ _ _ _ _ _; refine zT ?_
 refine zq ?_ ?_ <;> intro h54
 ·
  have hGt := h54
  refine rn5 ?_
  refine zq ?_ ?_ <;> intro h10
  ·
   have hb := h10
   refine rn3 ?_; refine zP (q_elem rfl rfl rfl 0 rfl _ rfl rfl) ?_; refine zL ?_
   refine zP (q_bslice rfl rfl rfl rfl (by exact rfl) (by decide) (by decide)) ?_
   refine s_append_tok hN rfl rfl rfl (by simp) rfl rfl (all_okE okE_nm _) rfl (by simp [chunk_1] at hlen ⊢ <;> omega) rfl rfl rfl rfl ?_
   refine rn4 ?_; refine zP (q_from rfl rfl rfl 1 rfl (by simp) (by exact fun _ => rfl)) ?_; refine zS ?_; refine aops_nil ?_
   exact ⟨⟨(x :: r, s, acc ++ [y]), pb_yes hb (by rw [← hg, mg_gt hLt hGt]), by simp at hlen ⊢ <;> omega⟩, weak_scrub' rfl (zz4 (zz1 ⟨(cgL (by simp [sv1, chunk_1])), rfl, trivial⟩)) ⟨(cgT (by simp [chunk_1])), rfl, rfl, trivial⟩, by simp <;> omega⟩
  have hb := h10
  refine rn3 ?_; refine zP (q_from rfl rfl rfl 1 rfl (by simp) (by exact fun _ => rfl)) ?_; refine zS ?_; refine aops_nil ?_
  exact ⟨⟨(x :: r, s, acc), pb_no hb (by rw [← hg, mg_gt hLt hGt]), by simp at hlen ⊢ <;> omega⟩, weak_scrub' rfl (zz4 (zz1 ⟨(cgL (by simp [sv1, chunk_1])), rfl, trivial⟩)) ⟨(cgT (by simp [chunk_1])), rfl, rfl, trivial⟩, by simp <;> omega⟩
 have hGt := h54
 refine rn5 ?_
 refine zq ?_ ?_ <;> intro h9
 ·
  have hb := h9
  refine rn3 ?_; refine zP (q_elem rfl rfl rfl 0 rfl _ rfl rfl) ?_; refine zL ?_
  refine zP (q_bslice rfl rfl rfl rfl (by exact rfl) (by decide) (by decide)) ?_
  refine s_append_tok hN rfl rfl rfl (by simp) rfl rfl (all_okE okE_nm _) rfl (by simp [chunk_1] at hlen ⊢ <;> omega) rfl rfl rfl rfl ?_
  refine zT ?_; refine awp_draw 5 (by kernel_rfl) (by kernel_rfl) ?_; refine zm ?_
  refine zp (q_from rfl rfl rfl 1 rfl (by simp) (by exact fun _ => rfl)) ?_; refine zm ?_
  refine zp (q_from rfl rfl rfl 1 rfl (by simp) (by exact fun _ => rfl)) ?_; refine zp (q_assign rfl rfl) ?_; change AOps _ _ _ _ _ _; refine zS ?_
  refine aops_nil ?_
  exact ⟨⟨(r, s, acc ++ [x]), pb_yes hb (by rw [← hg, mg_eq hLt hGt]), by simp at hlen ⊢ <;> omega⟩, weak_scrub' rfl (zz4 (zz1 ⟨(cgL (by simp [sv1, chunk_1])), rfl, trivial⟩)) ⟨(cgT (by simp [chunk_1])), rfl, rfl, trivial⟩, by simp <;> omega⟩
 have hb := h9
 refine zW ?_; refine awp_draw 5 (by kernel_rfl) (by kernel_rfl) ?_; refine zm ?_
 refine zp (q_from rfl rfl rfl 1 rfl (by simp) (by exact fun _ => rfl)) ?_; refine zm ?_
 refine zp (q_from rfl rfl rfl 1 rfl (by simp) (by exact fun _ => rfl)) ?_; refine zp (q_assign rfl rfl) ?_; change AOps _ _ _ _ _ _; refine zS ?_
 refine aops_nil ?_
 exact ⟨⟨(r, s, acc), pb_no hb (by rw [← hg, mg_eq hLt hGt]), by simp at hlen ⊢ <;> omega⟩, weak_scrub' rfl (zz4 (zz1 ⟨(cgL (by simp [sv1, chunk_1])), rfl, trivial⟩)) ⟨(cgT (by simp [chunk_1])), rfl, rfl, trivial⟩, by simp <;> omega⟩
end Go.Proofs.YtaecccdkjmipeaaGreat

namespace Go.Proofs.YtaecccdkjmipeaaGreat
open Go.RowKit
theorem fzs_nms (l : List Nm) : ∀ e ∈ l.map sv1, fzs e = some e := fun e he => by
 obtain ⟨x, -, rfl⟩ := List.mem_map.1 he
 rfl

set_option maxRecDepth 100000 in
set_option maxHeartbeats 1000000 in
theorem clone_fo (l : List Nm) (hl : l.length ≤ 1000000) : FO Tryz.prog 113 [svs l] 9 1 (l.map sv1) := by
 refine fo_of_awp 2 Tryz.func113 rfl rfl 8 Tryz.ntmps113 (Nat.le_of_ble_eq_true rfl) ?_
 intro E hN
 refine rn8 ?_
 refine s_sleq hN rfl rfl rfl rfl rfl rfl rfl (fun b hbb => ?_)
 refine zN ?_
 refine zq ?_ ?_ <;> intro h2
 ·
  have hnil : l = [] := by
   rcases l with _ | ⟨x, r⟩
   ·rfl
   have := hbb (by simp); rw [this] at h2; cases h2
  subst hnil
  refine rn4 ?_; refine awp_weak (weak_own rfl 2 9 1 rfl) ?_; refine awp_ret ?_
  exact ⟨0, 0, rfl, rfl, rfl, fzs_nms []⟩
 refine rn3 ?_; refine s_bslice0 hN rfl rfl rfl rfl rfl rfl ?_; refine zM ?_
 refine s_append_own hN rfl rfl rfl rfl rfl rfl (all_okE okE_nm _) (by simp; omega) rfl rfl rfl rfl ?_
 refine zT ?_; refine awp_ret ?_
 exact ⟨0, _, rfl, by simp, rfl, fzs_nms l⟩
end Go.Proofs.YtaecccdkjmipeaaGreat

namespace Go.Proofs.YtaecccdkjmipeaaGreat
open Go.RowKit
theorem bl_irr : ∀ a : Nm, Op.bytesLess a a = false
 | [] => rfl
 | x :: a => by
  unfold Op.bytesLess
  simp [bl_irr a, UInt8.lt_irrefl]
theorem bl_ne {a b : Nm} (h : Op.bytesLess a b = true) : (b == a) = false := by
 cases hb : (b == a) with
 | false => rfl
 | true =>
  have : b = a := by simpa using hb
  subst this
  rw [bl_irr] at h; cases h

set_option maxRecDepth 100000 in
set_option maxHeartbeats 1000000 in
theorem compact_fc (l : List Nm) (hs0 : sortedB l = true) : FC Tryz.prog 208 [svs l] (svs l) := by
 refine fc_of_awp [2] Tryz.func208 rfl rfl 61 Tryz.ntmps208 (Nat.le_of_ble_eq_true rfl) ?_
 intro E hN
 refine a_lm 0 rfl (fun hl0 => ?_)
 refine rn11 ?_
 refine zq ?_ ?_ <;> intro h3
 ·
  refine rn4 ?_; refine zQ ?_
  rfl
 refine rn7 ?_
 refine awp_loop (fun x : {k : Nat // 1 ≤ k ∧ sortedB (l.drop (k - 1)) = sortedB l ∧ k ≤ l.length + 1} => ⟨[(0, svs l), (3, i64 (x.1 : Nat))], [], 0⟩) (fun x => l.length + 1 - x.1) (⟨1, Nat.le_refl _, rfl, by omega⟩) ?_ ?_
 ·
  exact weak_scrub' rfl (zz2 trivial) trivial
 rintro ⟨k, hk, hg, hk2⟩
 dsimp only
 refine rn8 ?_
 refine zq ?_ ?_ <;> intro h7
 ·
  have hlt : k < l.length := by simpa using h7
  obtain ⟨x, hx⟩ := get_lt hlt
  obtain ⟨y, hy⟩ := get_lt (show k - 1 < l.length by omega)
  have hs := sorted_go hk hg hy hx
  rw [hs0] at hs
  have hs1 : (Op.bytesLess y x && sortedB (l.drop k)) = true := hs.symm
  rw [Bool.and_eq_true] at hs1
  have hn : sortedB (l.drop (k + 1 - 1)) = sortedB l := by rw [Nat.add_sub_cancel, hs0]; exact hs1.2
  refine rn4 ?_; refine awp_draw 9 (by kernel_rfl) (by kernel_rfl) ?_; refine rn2 ?_; refine zp (q_elem rfl rfl rfl k rfl _ (map_get hx) rfl) ?_
  refine rn3 ?_; refine zp (q_subi rfl rfl rfl (by omega)) ?_; refine zp (q_elem rfl rfl rfl (k - 1) (by omega) _ (map_get hy) rfl) ?_; refine zl ?_
  change AOps _ _ _ _ _ _; refine zP (q_binb (b := false) rfl rfl rfl (congrArg Value.bool (bl_ne hs1.1))) ?_; refine zN ?_; refine c_false rfl rfl ?_
  refine rn3 ?_; refine zP (q_addi rfl rfl rfl (by omega)) ?_; refine zS ?_; refine aops_nil ?_
  exact ⟨⟨k + 1, by omega, hn, by omega⟩, weak_scrub' rfl (zz1 ⟨(cgI (by dsimp only; omega)), rfl, trivial⟩) trivial, by dsimp only; omega⟩
 refine rn5 ?_; refine zQ ?_
 rfl
end Go.Proofs.YtaecccdkjmipeaaGreat
