/-
  Contracts of the reference: unions, closures.
  Contracts of the reference: joined registers, numbers, flat elements.
-/
import Derived.Test.YtnjmbgnaplomaaaGreatC8
import Derived.Test.YtnjmbgnaplomaaaGreatC2
import Derived.Test.YtnjmbgnaplomaaaGreatC7
namespace Go.Proofs.YtnjmbgnaplomaaaGreat
open Go.RowKit
theorem aops_weak {P : Program} {E : Env} {ops : Array Oper} {l : List Oper} {Q : Exit → St → Prop} {st st' : St} (hw : Weak E st st') (h : AOps P E ops l Q st') : AOps P E ops l Q st := fun c a hr => by
 obtain ⟨c', e, h'⟩ := hw c a hr
 have := h c' a h'
 rwa [e] at this
theorem uni_of {a b : List Nm} (ha : sortedB a = true) (hb : sortedB b = true) : ofN (a ++ b) = uni a b := (ofN_one (sorted_pw (uni_sorted ha hb)) (fun z => by rw [uni_mem ha hb, List.mem_append])).symm
theorem itr_of {a b : List Nm} (ha : sortedB a = true) (hb : sortedB b = true) : ofN (a.filter (hasB b)) = itr a b := (ofN_one (sorted_pw (itr_sorted ha hb)) (fun z => by rw [itr_mem ha hb, List.mem_filter, has_iff])).symm
theorem union_lent {f : FuncId} {a b : List Nm} {r : AV} (h : FC Tryz.prog f [svs (a ++ b)] r) : FC Tryz.prog f [.sl ([] ++ a.map sv1 ++ b.map sv1) none] r := by
 have e : svs (a ++ b) = .sl ([] ++ a.map sv1 ++ b.map sv1) none := by simp
 rwa [e] at h
theorem chn_dec {A B L k : Nat} (h : A < B) (_ : k < L) : A * (L + 1) + L < B * (L + 1) + (L - k) := by
 have h1 := Nat.mul_le_mul_right (L + 1) h
 rw [Nat.succ_mul] at h1
 omega
set_option maxRecDepth 100000 in
set_option maxHeartbeats 1000000 in
theorem rUnion_fc (a b : List Nm) (hl : a.length + b.length ≤ 1000000) : FC Tryz.prog 85 [svs a, svs b] (svs (ofN (a ++ b))) := by
 refine fc_of_awp [4] Tryz.func85 rfl rfl 11 Tryz.ntmps85 (Nat.le_of_ble_eq_true rfl) ?_
 intro E hN
 refine zG ?_; refine zS ?_; refine zA ?_; refine s_bslice0 hN rfl rfl rfl rfl rfl rfl ?_; refine zM ?_
 refine s_append_own hN rfl rfl rfl rfl rfl rfl (all_okE okE_nm _) (by simp; omega) rfl rfl rfl rfl ?_
 refine zM ?_
 refine s_append_own hN rfl rfl rfl (by simp) rfl rfl (all_okE okE_nm _) (by simp; omega) rfl rfl rfl rfl ?_
 refine aops_weak (weak_frow 9 0 rfl rfl (by simp) (by rw [List.all_append]; simp only [List.all_append, all_okE okE_nm, List.all_nil, Bool.and_self]) (fun e he => by
  simp only [List.nil_append, List.mem_append] at he
  exact he.elim (fzs_nms _ e) (fzs_nms _ e)) rfl) ?_
 refine zP (q_call (union_lent (rOf_fc (a ++ b) (by rw [List.length_append]; exact hl))) rfl rfl rfl) ?_
 refine zS ?_; refine zQ ?_
 rfl
set_option maxRecDepth 100000 in
set_option maxHeartbeats 1000000 in
theorem rInter_fc (a b : List Nm) (ha : a.length ≤ 1000000) : FC Tryz.prog 84 [svs a, svs b] (svs (ofN (a.filter (hasB b)))) := by
 refine fc_of_awp [4] Tryz.func84 rfl rfl 29 Tryz.ntmps84 (Nat.le_of_ble_eq_true rfl) ?_
 intro E hN
 refine zG ?_; refine zS ?_; refine zA ?_; refine s_bslice0 hN rfl rfl rfl rfl rfl rfl ?_; refine zT ?_; refine zH ?_; refine zT ?_
 refine awp_block ?_
 refine awp_loop (fun x : {k : Nat // k ≤ (a).length ∧ True} => ⟨[(0, svs a), (1, svs b), (5, .own 0 ((a.take x.1).filter (hasB b)).length), (6, i64 (x.1 : Nat))], [(0, .arr 9 1 (((a.take x.1).filter (hasB b)).map sv1))], 1⟩) (fun x => (a).length - x.1) (⟨0, Nat.zero_le _, by simp⟩) ?_ ?_
 ·
  exact weak_scrub' rfl (zz4 trivial) ⟨rfl, rfl, (ok_arr (fun _ => rfl) _), trivial⟩
 rintro ⟨k, hk, hg⟩
 dsimp only
 refine zH ?_; refine zM ?_; refine zM ?_; refine zE ?_; refine zB ?_; refine zN ?_
 refine zq ?_ ?_ <;> intro h9
 ·
  have hlt : k < (a).length := by simpa using h9
  obtain ⟨x, hx⟩ := get_lt hlt
  refine zW ?_; refine awp_seq ?_; refine awp_block ?_; refine zG ?_; refine zM ?_; refine zM ?_; refine zM ?_
  refine zP (q_elem rfl rfl rfl k rfl _ (map_get hx) rfl) ?_; refine zL ?_; refine zP (q_call (rHas_fc b x) rfl rfl rfl) ?_; refine zN ?_
  refine zq ?_ ?_ <;> intro h12
  ·
   have hq : hasB b x = true := h12
   refine awp_region ?_; refine zM ?_; refine zM ?_; refine zM ?_; refine zP (q_elem rfl rfl rfl k rfl _ (map_get hx) rfl) ?_; refine zL ?_
   refine zP (q_bslice rfl rfl rfl rfl (by exact rfl) (by decide) (by decide)) ?_
   refine s_append_own hN rfl rfl rfl (by simp) rfl rfl rfl (by have := fl_len (q := hasB b) (l := a) (k := k); simp [chunk_1] at this ⊢; omega) rfl rfl rfl rfl ?_
   refine zS ?_; refine aops_nil ?_; change AWP _ _ _ _  _; refine awp_region ?_; refine zM ?_; refine zP (q_addi rfl rfl rfl (by omega)) ?_
   refine zS ?_; refine aops_nil ?_
   exact ⟨⟨k + 1, hlt, trivial⟩, weak_scrub' rfl (zz2 ⟨(cgO (by first | (rw [fl_yes hx hq]; simp [chunk_1]; done) | rw [fl_no hx hq])), rfl, (cgI (by dsimp only; omega)), rfl, trivial⟩) ⟨(cgA (by first | (rw [fl_yes hx hq]; simp [chunk_1, sv1]; done) | rw [fl_no hx hq])), rfl, (ok_arr (fun _ => rfl) _), trivial⟩, by dsimp only; omega⟩
  have hq : hasB b x = false := h12
  refine awp_skip ?_; change AWP _ _ _ _  _; refine awp_region ?_; refine zM ?_; refine zP (q_addi rfl rfl rfl (by omega)) ?_; refine zS ?_
  refine aops_nil ?_
  exact ⟨⟨k + 1, hlt, trivial⟩, weak_scrub' rfl (zz2 ⟨(cgO (by first | (rw [fl_yes hx hq]; simp [chunk_1]; done) | rw [fl_no hx hq])), rfl, (cgI (by dsimp only; omega)), rfl, trivial⟩) ⟨(cgA (by first | (rw [fl_yes hx hq]; simp [chunk_1, sv1]; done) | rw [fl_no hx hq])), rfl, (ok_arr (fun _ => rfl) _), trivial⟩, by dsimp only; omega⟩
 have hge : a.length ≤ k := by simpa using h9
 rw [List.take_of_length_le hge]
 refine awp_exit ?_; change AWP _ _ _ _  _; refine awp_seq ?_; refine awp_weak (weak_frow 5 0 rfl rfl (by simp) (all_okE okE_nm _) (fzs_nms _) rfl) ?_
 refine awp_region ?_; refine zM ?_; refine zP (q_call (rOf_fc (a.filter (hasB b)) (Nat.le_trans (List.length_filter_le _ _) ha)) rfl rfl rfl) ?_
 refine zS ?_; refine zQ ?_
 rfl
set_option maxRecDepth 100000 in
set_option maxHeartbeats 1000000 in
theorem r8Has_fc (l : List Nm) (s : Nm) : FC Tryz.prog 145 [svs l, sv s] (bl (hasB l s)) := by
 refine fc_of_awp [4] Tryz.func145 rfl rfl 18 Tryz.ntmps145 (Nat.le_of_ble_eq_true rfl) ?_
 intro E hN
 refine a_lm 0 rfl (fun hl0 => ?_)
 refine zG ?_; refine zT ?_; refine zH ?_; refine zT ?_; refine awp_block ?_
 refine awp_loop (fun x : {k : Nat // k ≤ (l).length ∧ (l.drop k).any (s == ·) = l.any (s == ·)} => ⟨[(0, svs l), (1, sv s), (5, i64 (x.1 : Nat))], [], 0⟩) (fun x => (l).length - x.1) (⟨0, Nat.zero_le _, by simp⟩) ?_ ?_
 ·
  exact weak_scrub' rfl (zz3 trivial) trivial
 rintro ⟨k, hk, hg⟩
 dsimp only
 refine zH ?_; refine zM ?_; refine zM ?_; refine zE ?_; refine zB ?_; refine zN ?_
 refine zq ?_ ?_ <;> intro h7
 ·
  have hlt : k < (l).length := by simpa using h7
  obtain ⟨x, hx⟩ := get_lt hlt
  refine zW ?_; refine awp_seq ?_; refine awp_block ?_; refine zG ?_; refine zM ?_; refine zM ?_
  refine zP (q_elem rfl rfl rfl k rfl _ (map_get hx) rfl) ?_; refine zL ?_; refine zM ?_; refine zB ?_; refine zN ?_
  refine zq ?_ ?_ <;> intro h10
  ·
   have hxs : x = s := by simpa using h10
   refine zG ?_; refine zS ?_; refine zQ ?_
   exact retB (any_yes hg hx (by rw [hxs]; simp)).symm
  have hxs : x ≠ s := by simpa using h10
  refine awp_skip ?_; change AWP _ _ _ _  _; refine awp_region ?_; refine zM ?_; refine zP (q_addi rfl rfl rfl (by omega)) ?_; refine zS ?_
  refine aops_nil ?_
  exact ⟨⟨k + 1, hlt, any_go hg hx (beq_eq_false_iff_ne.2 fun e => hxs e.symm)⟩, weak_scrub' rfl (zz2 ⟨(cgI (by dsimp only; omega)), rfl, trivial⟩) trivial, by dsimp only; omega⟩
 have hge : (l).length ≤ k := by simpa using h7
 refine awp_exit ?_; change AWP _ _ _ _  _; refine zG ?_; refine zS ?_; refine zQ ?_
 exact retB (any_end hg hge).symm
set_option maxRecDepth 100000 in
set_option maxHeartbeats 1000000 in
theorem r8Subset_fc (a b : List Nm) : FC Tryz.prog 144 [svs a, svs b] (bl (subsetB a b)) := by
 refine fc_of_awp [4] Tryz.func144 rfl rfl 19 Tryz.ntmps144 (Nat.le_of_ble_eq_true rfl) ?_
 intro E hN
 refine a_lm 0 rfl (fun hl0 => ?_)
 have hE : a.all (hasB b) = subsetB a b := by rw [Bool.eq_iff_iff, subset_iff, List.all_eq_true]; simp only [has_iff]
 rw [← hE]
 refine zG ?_; refine zT ?_; refine zH ?_; refine zT ?_; refine awp_block ?_
 refine awp_loop (fun x : {k : Nat // k ≤ (a).length ∧ (a.drop k).all (hasB b) = a.all (hasB b)} => ⟨[(0, svs a), (1, svs b), (5, i64 (x.1 : Nat))], [], 0⟩) (fun x => (a).length - x.1) (⟨0, Nat.zero_le _, by simp⟩) ?_ ?_
 ·
  exact weak_scrub' rfl (zz3 trivial) trivial
 rintro ⟨k, hk, hg⟩
 dsimp only
 refine zH ?_; refine zM ?_; refine zM ?_; refine zE ?_; refine zB ?_; refine zN ?_
 refine zq ?_ ?_ <;> intro h7
 ·
  have hlt : k < (a).length := by simpa using h7
  obtain ⟨x, hx⟩ := get_lt hlt
  refine zW ?_; refine awp_seq ?_; refine awp_block ?_; refine zG ?_; refine zM ?_; refine zM ?_; refine zM ?_
  refine zP (q_elem rfl rfl rfl k rfl _ (map_get hx) rfl) ?_; refine zL ?_; refine zP (q_call (r8Has_fc b x) rfl rfl rfl) ?_
  refine zP (q_not rfl rfl) ?_; refine zN ?_
  refine zq ?_ ?_ <;> intro h10
  ·
   refine zG ?_; refine zS ?_; refine zQ ?_
   exact retB (all_no hg hx (by simp_all)).symm
  refine awp_skip ?_; change AWP _ _ _ _  _; refine awp_region ?_; refine zM ?_; refine zP (q_addi rfl rfl rfl (by omega)) ?_; refine zS ?_
  refine aops_nil ?_
  exact ⟨⟨k + 1, hlt, all_go hg hx (by simp_all)⟩, weak_scrub' rfl (zz2 ⟨(cgI (by dsimp only; omega)), rfl, trivial⟩) trivial, by dsimp only; omega⟩
 have hge : (a).length ≤ k := by simpa using h7
 refine awp_exit ?_; change AWP _ _ _ _  _; refine zG ?_; refine zS ?_; refine zQ ?_
 exact retB (all_end hg hge).symm
set_option maxRecDepth 100000 in
set_option maxHeartbeats 1000000 in
theorem r8Sorted_fc (a b : List Nm) (ha : a.length ≤ 1000000) : FC Tryz.prog 117 [svs a, svs b] (svs (a.filter (hasB b))) := by
 refine fc_of_awp [4] Tryz.func117 rfl rfl 28 Tryz.ntmps117 (Nat.le_of_ble_eq_true rfl) ?_
 intro E hN
 refine zG ?_; refine zS ?_; refine zA ?_; refine s_bslice0 hN rfl rfl rfl rfl rfl rfl ?_; refine zT ?_; refine zH ?_; refine zT ?_
 refine awp_block ?_
 refine awp_loop (fun x : {k : Nat // k ≤ (a).length ∧ True} => ⟨[(0, svs a), (1, svs b), (5, .own 0 ((a.take x.1).filter (hasB b)).length), (6, i64 (x.1 : Nat))], [(0, .arr 9 1 (((a.take x.1).filter (hasB b)).map sv1))], 1⟩) (fun x => (a).length - x.1) (⟨0, Nat.zero_le _, by simp⟩) ?_ ?_
 ·
  exact weak_scrub' rfl (zz4 trivial) ⟨rfl, rfl, (ok_arr (fun _ => rfl) _), trivial⟩
 rintro ⟨k, hk, hg⟩
 dsimp only
 refine zH ?_; refine zM ?_; refine zM ?_; refine zE ?_; refine zB ?_; refine zN ?_
 refine zq ?_ ?_ <;> intro h9
 ·
  have hlt : k < (a).length := by simpa using h9
  obtain ⟨x, hx⟩ := get_lt hlt
  refine zW ?_; refine awp_seq ?_; refine awp_block ?_; refine zG ?_; refine zM ?_; refine zM ?_; refine zM ?_
  refine zP (q_elem rfl rfl rfl k rfl _ (map_get hx) rfl) ?_; refine zL ?_; refine zP (q_call (r8Has_fc b x) rfl rfl rfl) ?_; refine zN ?_
  refine zq ?_ ?_ <;> intro h12
  ·
   have hq : hasB b x = true := h12
   refine awp_region ?_; refine zM ?_; refine zM ?_; refine zM ?_; refine zP (q_elem rfl rfl rfl k rfl _ (map_get hx) rfl) ?_; refine zL ?_
   refine zP (q_bslice rfl rfl rfl rfl (by exact rfl) (by decide) (by decide)) ?_
   refine s_append_own hN rfl rfl rfl (by simp) rfl rfl rfl (by have := fl_len (q := hasB b) (l := a) (k := k); simp [chunk_1] at this ⊢; omega) rfl rfl rfl rfl ?_
   refine zS ?_; refine aops_nil ?_; change AWP _ _ _ _  _; refine awp_region ?_; refine zM ?_; refine zP (q_addi rfl rfl rfl (by omega)) ?_
   refine zS ?_; refine aops_nil ?_
   exact ⟨⟨k + 1, hlt, trivial⟩, weak_scrub' rfl (zz2 ⟨(cgO (by first | (rw [fl_yes hx hq]; simp [chunk_1]; done) | rw [fl_no hx hq])), rfl, (cgI (by dsimp only; omega)), rfl, trivial⟩) ⟨(cgA (by first | (rw [fl_yes hx hq]; simp [chunk_1, sv1]; done) | rw [fl_no hx hq])), rfl, (ok_arr (fun _ => rfl) _), trivial⟩, by dsimp only; omega⟩
  have hq : hasB b x = false := h12
  refine awp_skip ?_; change AWP _ _ _ _  _; refine awp_region ?_; refine zM ?_; refine zP (q_addi rfl rfl rfl (by omega)) ?_; refine zS ?_
  refine aops_nil ?_
  exact ⟨⟨k + 1, hlt, trivial⟩, weak_scrub' rfl (zz2 ⟨(cgO (by first | (rw [fl_yes hx hq]; simp [chunk_1]; done) | rw [fl_no hx hq])), rfl, (cgI (by dsimp only; omega)), rfl, trivial⟩) ⟨(cgA (by first | (rw [fl_yes hx hq]; simp [chunk_1, sv1]; done) | rw [fl_no hx hq])), rfl, (ok_arr (fun _ => rfl) _), trivial⟩, by dsimp only; omega⟩
 have hge : a.length ≤ k := by simpa using h9
 rw [List.take_of_length_le hge]
 refine awp_exit ?_; change AWP _ _ _ _  _; refine zG ?_; refine zM ?_; refine zT ?_
 refine awp_weak (weak_frow 4 0 rfl rfl (by simp) (all_okE okE_nm _) (fzs_nms _) rfl) ?_; refine zR ?_
 rfl
set_option maxRecDepth 100000 in
set_option maxHeartbeats 1000000 in
theorem r8chain_fc (rs : List Ru) (s : List Nm) (hr : rs.length ≤ 1000000) (hs : s.length ≤ 1000000) : FC Tryz.prog 116 [rus rs, svs s] (.tup [svs (chainC rs s []).1, ivs (chainC rs s []).2]) := by
 refine fc_of_awp [4, 5] Tryz.func116 rfl rfl 50 Tryz.ntmps116 (Nat.le_of_ble_eq_true rfl) ?_
 intro E hN
 refine zG ?_; refine zS ?_; refine zS ?_; refine zA ?_; refine s_bslice0 hN rfl rfl rfl rfl rfl rfl ?_; refine zM ?_
 refine s_append_own hN rfl rfl rfl rfl rfl rfl (all_okE okE_nm _) (by simp; omega) rfl rfl rfl rfl ?_
 refine zS ?_; refine zA ?_; refine s_bslice0 hN rfl rfl rfl rfl rfl rfl ?_; refine zT ?_; refine zH ?_; refine zT ?_; refine awp_block ?_
 refine awp_loop (fun z : {q : Nat × List Nm × List Int // q.1 ≤ rs.length ∧ fstR (firesR q.2.1) (rs.drop q.1) q.1 = fstR (firesR q.2.1) rs 0 ∧ chainC rs q.2.1 q.2.2 = chainC rs s [] ∧ q.2.1.length + todo rs q.2.1 ≤ s.length + rs.length ∧ q.2.2.length + todo rs q.2.1 ≤ rs.length} => ⟨[(0, rus rs), (6, .own 0 z.1.2.1.length), (7, .own 1 z.1.2.2.length), (8, i64 (z.1.1 : Nat))], [(0, .arr 9 1 (z.1.2.1.map sv1)), (1, .arr 3 1 (z.1.2.2.map iv1))], 2⟩) (fun z => todo rs z.1.2.1 * (rs.length + 1) + (rs.length - z.1.1)) (⟨(0, s, []), Nat.zero_le _, rfl, rfl, by have := todo_le (rs := rs) (t := s); dsimp only; omega, by have := todo_le (rs := rs) (t := s); simpa using this⟩) ?_ ?_
 ·
  exact weak_scrub' rfl (zz1 ⟨(cgO (by simp)), rfl, (cgO rfl), rfl, (zz1 trivial)⟩) ⟨(cgA (by simp)), rfl, (ok_arr (fun _ => rfl) _), (cgA rfl), rfl, (ok_arr (fun _ => rfl) _), trivial⟩
 rintro ⟨⟨k, t, u⟩, hk, hg, hc, ht, hu⟩
 dsimp only at hk hg hc ht hu ⊢
 refine zH ?_; refine zM ?_; refine zM ?_; refine zE ?_; refine zB ?_; refine zN ?_
 refine zq ?_ ?_ <;> intro h11
 ·
  have hlt : k < (rs).length := by simpa using h11
  obtain ⟨x, hx⟩ := get_lt hlt
  refine zW ?_; refine awp_seq ?_; refine awp_block ?_; refine zG ?_; refine zM ?_; refine zM ?_
  refine zP (q_elem rfl rfl rfl k rfl _ (map_get hx) rfl) ?_; refine zF ?_; refine zL ?_; refine zM ?_
  refine zP (q_lend (r8Subset_fc x.i t) rfl rfl rfl (.cons (.fz rfl) (.cons (.own rfl (by simp) (all_okE okE_nm _) (fzs_nms _)) .nil))) ?_
  refine zM ?_
  refine zc 26 ?_ ?_ <;> intro h15
  ·
   refine uM (w11 h15) ?_; refine uM (w11 h15) ?_; refine uM (w11 h15) ?_; refine uP (w11 h15) (q_elem rfl rfl rfl k rfl _ (map_get hx) rfl) ?_
   refine uF (w11 h15) ?_; refine uL (w11 h15) ?_
   refine uP (w11 h15) (q_lend (r8Has_fc t x.t) rfl rfl rfl (.cons (.own rfl (by simp) (all_okE okE_nm _) (fzs_nms _)) (.cons (.fz rfl) .nil))) ?_
   refine uP (w11 h15) (q_not rfl rfl) ?_; refine zh1 h15 ?_; refine zN ?_
   refine zq ?_ ?_ <;> intro h19
   ·
    have hf : firesR t x = true := by unfold firesR; simp_all
    have hhit := fst_hit hg hx hf
    have htd := todo_lt (List.mem_of_getElem? hx) hf
    have hch : chainC rs (t ++ [x.t]) (u ++ [(k : Int)]) = chainC rs s [] := by rw [← hc, chn_some hhit]
    refine zG ?_; refine zM ?_; refine zM ?_; refine zM ?_; refine zP (q_elem rfl rfl rfl k rfl _ (map_get hx) rfl) ?_; refine zF ?_; refine zL ?_
    refine zP (q_bslice rfl rfl rfl rfl (by exact rfl) (by decide) (by decide)) ?_
    refine s_append_own hN rfl rfl rfl (by simp) rfl rfl rfl (by simp [chunk_1]; omega) rfl rfl rfl rfl ?_
    refine zS ?_; refine zA ?_; refine zM ?_; refine zM ?_; refine zP (q_bslice rfl rfl rfl rfl (by exact rfl) (by decide) (by decide)) ?_
    refine s_append_own hN rfl rfl rfl (by simp) rfl rfl rfl (by simp [chunk_1]; omega) rfl rfl rfl rfl ?_
    refine zT ?_; refine awp_region ?_; refine zS ?_; refine aops_nil ?_; change AWP _ _ _ _  _; refine awp_region ?_; refine zM ?_
    refine zP (q_addi rfl rfl rfl (by omega)) ?_; refine zS ?_; refine aops_nil ?_
    exact ⟨⟨(0, t ++ [x.t], u ++ [(k : Int)]), Nat.zero_le _, rfl, hch, by simp only [List.length_append, List.length_singleton]; omega, by simp only [List.length_append, List.length_singleton]; omega⟩, weak_scrub' rfl (zz1 ⟨(cgO (by simp [chunk_1])), rfl, (cgO (by simp [chunk_1])), rfl, (cgI (by dsimp only; omega)), rfl, trivial⟩) ⟨(cgA (by simp [chunk_1, sv1])), rfl, (ok_arr (fun _ => rfl) _), (cgA (by simp [chunk_1, iv1])), rfl, (ok_arr (fun _ => rfl) _), trivial⟩, by first | exact chn_dec htd hlt | (dsimp only; omega)⟩
   have hnf : firesR t x = false := by unfold firesR; simp_all
   refine awp_skip ?_; change AWP _ _ _ _  _; refine awp_region ?_; refine zM ?_; refine zP (q_addi rfl rfl rfl (by omega)) ?_; refine zS ?_
   refine aops_nil ?_
   exact ⟨⟨(k + 1, t, u), hlt, fst_go hg hx hnf, hc, ht, hu⟩, weak_scrub' rfl (zz1 ⟨(cgO (by simp [chunk_1])), rfl, (cgO (by simp [chunk_1])), rfl, (cgI (by dsimp only; omega)), rfl, trivial⟩) ⟨(cgA (by simp [chunk_1, sv1])), rfl, (ok_arr (fun _ => rfl) _), (cgA (by simp [chunk_1, iv1])), rfl, (ok_arr (fun _ => rfl) _), trivial⟩, by first | exact chn_dec htd hlt | (dsimp only; omega)⟩
  have hnf : firesR t x = false := by unfold firesR; simp_all
  iterate 8 refine uK (w01 h15) ?_
  refine zh0 h15 ?_; refine zN ?_; refine c_false rfl rfl ?_; refine awp_skip ?_; change AWP _ _ _ _  _; refine awp_region ?_; refine zM ?_
  refine zP (q_addi rfl rfl rfl (by omega)) ?_; refine zS ?_; refine aops_nil ?_
  exact ⟨⟨(k + 1, t, u), hlt, fst_go hg hx hnf, hc, ht, hu⟩, weak_scrub' rfl (zz1 ⟨(cgO (by simp [chunk_1])), rfl, (cgO (by simp [chunk_1])), rfl, (cgI (by dsimp only; omega)), rfl, trivial⟩) ⟨(cgA (by simp [chunk_1, sv1])), rfl, (ok_arr (fun _ => rfl) _), (cgA (by simp [chunk_1, iv1])), rfl, (ok_arr (fun _ => rfl) _), trivial⟩, by first | exact chn_dec htd hlt | (dsimp only; omega)⟩
 have hge : rs.length ≤ k := by simpa using h11
 have hn : fstR (firesR t) rs 0 = none := by rw [← hg, List.drop_of_length_le hge]; rfl
 rw [chn_none hn] at hc
 refine awp_exit ?_; change AWP _ _ _ _  _; refine zG ?_; refine zM ?_; refine zM ?_; refine zS ?_; refine zT ?_
 refine awp_weak (weak_frow 4 0 rfl rfl (by simp) (all_okE okE_nm _) (fzs_nms _) rfl) ?_
 refine awp_weak (weak_frow 5 1 rfl rfl (by simp) (all_okE (fun _ => rfl) _) (fzs_iv2 _) rfl) ?_; refine zR ?_
 rw [← hc]
set_option maxRecDepth 100000 in
set_option maxHeartbeats 1000000 in
theorem r8Close_fc (us : List Nm) (rs : List Ru) (s : List Nm) (hu : us.length ≤ 1000000) (hr : rs.length ≤ 1000000) (hs : s.length ≤ 1000000) : FC Tryz.prog 86 [svs us, rus rs, svs s] (svs (closeV us rs s)) := by
 refine fc_of_awp [6] Tryz.func86 rfl rfl 18 Tryz.ntmps86 (Nat.le_of_ble_eq_true rfl) ?_
 intro E hN
 refine zG ?_; refine zS ?_; refine zA ?_; refine zM ?_; refine zM ?_; refine zP (q_call (r8chain_fc rs s hr hs) rfl rfl rfl) ?_; refine zM ?_
 refine zP (q_extract rfl rfl rfl) ?_; refine zP (q_extract rfl rfl rfl) ?_; refine zS ?_; refine zS ?_; refine zA ?_; refine zM ?_; refine zM ?_
 refine zP (q_call (r8Sorted_fc us (chainC rs s []).1 hu) rfl rfl rfl) ?_; refine zS ?_; refine zQ ?_
 rw [chn_out]; rfl
end Go.Proofs.YtnjmbgnaplomaaaGreat

namespace Go.Proofs.YtnjmbgnaplomaaaGreat
open Go.RowKit
theorem fzs_enl (l : List En) : ∀ e ∈ l.map enC, fzs e = some e := fun e he => by
 obtain ⟨y, -, rfl⟩ := List.mem_map.1 he
 rfl
theorem len2 (l : List En) : ∀ e ∈ l.map enC, e.length = 2 := len_map (f := enC) (fun _ => rfl)
theorem chunk_en2 (a b : AV) : chunkA 2 1 [a, b] = [[a, b]] := rfl
theorem load_en (y : En) (z : List AV) : loaded true 2 (enC y ++ z) = some (.agg (enC y)) := by
 have h : Nat.ble 2 (enC y ++ z).length = true := Nat.ble_eq_true_of_le (by simp [enC])
 show (bif Nat.ble 2 (enC y ++ z).length then some (AV.agg ((enC y ++ z).take 2)) else none) = _
 rw [h]; rfl
theorem set_en {l : List En} {i : Nat} {x : En} : (l.map enC).set i (enC x) = (l.set i x).map enC := by rw [List.map_set]
def maxT (l : List En) (k : Nat) : List En := ((l.zipIdx.take k).filter (keepE l)).map Prod.fst
theorem maxT_succ {l : List En} {k : Nat} {x : En} (h : l[k]? = some x) : maxT l (k + 1) = maxT l k ++ (if keepE l (x, k) then [x] else []) := by
 unfold maxT
 rw [List.take_add_one, zipE_get h, List.filter_append, List.map_append]
 cases hk : keepE l (x, k) <;> simp [hk]
theorem maxT_yes {l : List En} {k : Nat} {x : En} (h : l[k]? = some x) (hk : keepE l (x, k) = true) : maxT l (k + 1) = maxT l k ++ [x] := by rw [maxT_succ h, if_pos hk]
theorem maxT_no {l : List En} {k : Nat} {x : En} (h : l[k]? = some x) (hk : keepE l (x, k) = false) : maxT l (k + 1) = maxT l k := by rw [maxT_succ h, if_neg (by rw [hk]; decide), List.append_nil]
theorem maxT_len (l : List En) (k : Nat) : (maxT l k).length ≤ k := by
 unfold maxT
 rw [List.length_map]
 exact Nat.le_trans (List.length_filter_le _ _) (by simp; omega)
theorem maxT_all {l : List En} {k : Nat} (h : l.length ≤ k) : maxT l k = maxE l := by
 unfold maxT maxE
 rw [List.take_of_length_le (by rw [zipE_len]; exact h)]
set_option maxRecDepth 100000 in
set_option maxHeartbeats 1000000 in
theorem rnumber_fc (a b : Val) (g : Bool) : FC Tryz.prog 80 [.agg (valL a), .agg (valL b), bl g] (.agg (valL (pickN a b g))) := by
 refine fc_of_awpR [.c 6 41 4 true] ⟨⟨inferInstance, rfl⟩, trivial⟩ Tryz.func80 rfl rfl 16 Tryz.ntmps80 (Nat.le_of_ble_eq_true rfl) ?_
 intro E hN
 refine zG ?_; refine zX ?_; refine zX ?_; refine zO ?_; refine zN ?_; refine zH ?_; refine zF ?_; refine zL ?_; refine zF ?_; refine zL ?_
 refine zB ?_; refine zM ?_; refine zB ?_; refine zN ?_
 refine zq ?_ ?_ <;> intro h12
 ·
  have h1 := h12
  refine zG ?_; refine zL ?_; refine zC ?_; refine zN ?_; refine awp_ret ?_
  change (resY _ _).bind AV.fzt = some _
  refine ret_r rfl ?_
  rw [pickN, if_pos h1]
 have h1 := h12
 refine zW ?_; refine zG ?_; refine zL ?_; refine zC ?_; refine zN ?_; refine awp_ret ?_
 change (resY _ _).bind AV.fzt = some _
 refine ret_r rfl ?_
 rw [pickN, if_neg (by rw [h1]; decide)]
set_option maxRecDepth 100000 in
set_option maxHeartbeats 1000000 in
theorem rflat_fc (a b : Val) (g : Bool) : FC Tryz.prog 82 [.agg (valL a), .agg (valL b), bl g] (.agg (valL (flatV a b g))) := by
 refine fc_of_awpR [.c 6 41 4 true] ⟨⟨inferInstance, rfl⟩, trivial⟩ Tryz.func82 rfl rfl 28 Tryz.ntmps82 (Nat.le_of_ble_eq_true rfl) ?_
 intro E hN
 refine zG ?_; refine zX ?_; refine zX ?_; refine zO ?_; refine zA ?_; refine zS ?_; refine zT ?_; refine zH ?_; refine zM ?_
 refine zP (q_not rfl rfl) ?_; refine zN ?_
 refine zq ?_ ?_ <;> intro h3
 ·
  have h2 : g = false := by simpa using h3
  refine awp_region ?_; refine zS ?_; refine zT ?_; refine zH ?_; refine zF ?_; refine zL ?_; refine zM ?_; refine zB ?_; refine zM ?_
  refine zc 15 ?_ ?_ <;> intro h9
  ·
   iterate 3 refine uK (w10 h9) ?_
   refine zh1 h9 ?_; refine zN ?_; refine c_true rfl rfl ?_; refine zG ?_; refine zL ?_; refine zC ?_; refine zN ?_; refine awp_ret ?_
   change (resY _ _).bind AV.fzt = some _
   refine ret_r rfl ?_
   rw [show flatV a b g = a from by unfold flatV; simp_all]
  refine uL (w00 h9) ?_; refine uL (w00 h9) ?_; refine uP (w00 h9) (q_call (rEqual_fc a b) rfl rfl rfl) ?_; refine zh0 h9 ?_; refine zN ?_
  refine zq ?_ ?_ <;> intro h14
  ·
   refine zG ?_; refine zL ?_; refine zC ?_; refine zN ?_; refine awp_ret ?_
   change (resY _ _).bind AV.fzt = some _
   refine ret_r rfl ?_
   rw [show flatV a b g = a from by unfold flatV; simp_all]
  refine zW ?_; refine zH ?_; refine zF ?_; refine zL ?_; refine zM ?_; refine zB ?_; refine zN ?_
  refine zq ?_ ?_ <;> intro h19
  ·
   refine zG ?_; refine zL ?_; refine zC ?_; refine zN ?_; refine awp_ret ?_
   change (resY _ _).bind AV.fzt = some _
   refine ret_r rfl ?_
   rw [show flatV a b g = b from by unfold flatV; simp_all]
  refine zW ?_; refine zG ?_; refine zM ?_; refine zP (q_build rfl rfl rfl) ?_; refine zC ?_; refine zN ?_; refine awp_ret ?_
  change (resY _ _).bind AV.fzt = some _
  refine ret_r rfl ?_
  first | (rw [show flatV a b g = .mk 2 [] [] [] from by unfold flatV; simp_all]; rfl) | (rw [show flatV a b g = .mk 0 [] [] [] from by unfold flatV; simp_all]; rfl)
 have h2 : g = true := by simpa using h3
 refine zW ?_; refine zH ?_; refine zF ?_; refine zL ?_; refine zM ?_; refine zB ?_; refine zM ?_
 refine zc 15 ?_ ?_ <;> intro h26
 ·
  iterate 3 refine uK (w10 h26) ?_
  refine zh1 h26 ?_; refine zN ?_; refine c_true rfl rfl ?_; refine zG ?_; refine zL ?_; refine zC ?_; refine zN ?_; refine awp_ret ?_
  change (resY _ _).bind AV.fzt = some _
  refine ret_r rfl ?_
  rw [show flatV a b g = a from by unfold flatV; simp_all]
 refine uL (w00 h26) ?_; refine uL (w00 h26) ?_; refine uP (w00 h26) (q_call (rEqual_fc a b) rfl rfl rfl) ?_; refine zh0 h26 ?_; refine zN ?_
 refine zq ?_ ?_ <;> intro h31
 ·
  refine zG ?_; refine zL ?_; refine zC ?_; refine zN ?_; refine awp_ret ?_
  change (resY _ _).bind AV.fzt = some _
  refine ret_r rfl ?_
  rw [show flatV a b g = a from by unfold flatV; simp_all]
 refine zW ?_; refine zH ?_; refine zF ?_; refine zL ?_; refine zM ?_; refine zB ?_; refine zN ?_
 refine zq ?_ ?_ <;> intro h36
 ·
  refine zG ?_; refine zL ?_; refine zC ?_; refine zN ?_; refine awp_ret ?_
  change (resY _ _).bind AV.fzt = some _
  refine ret_r rfl ?_
  rw [show flatV a b g = b from by unfold flatV; simp_all]
 refine zW ?_; refine zG ?_; refine zM ?_; refine zP (q_build rfl rfl rfl) ?_; refine zC ?_; refine zN ?_; refine awp_ret ?_
 change (resY _ _).bind AV.fzt = some _
 refine ret_r rfl ?_
 first | (rw [show flatV a b g = .mk 2 [] [] [] from by unfold flatV; simp_all]; rfl) | (rw [show flatV a b g = .mk 0 [] [] [] from by unfold flatV; simp_all]; rfl)
set_option maxRecDepth 100000 in
set_option maxHeartbeats 1000000 in
theorem rentries_fc (a b : List En) (ha : RegOk a) (hb : RegOk b) (hl : a.length + b.length ≤ 1000000) : FC Tryz.prog 83 [ens a, ens b] (ens (mergedE a b)) := by
 refine fc_of_awp [4] Tryz.func83 rfl rfl 108 Tryz.ntmps83 (Nat.le_of_ble_eq_true rfl) ?_
 intro E hN
 refine zG ?_; refine zS ?_; refine zA ?_; refine zS ?_; refine zT ?_; refine awp_seq ?_; refine awp_weak (weak_own rfl 5 114 2 rfl) ?_
 refine awp_region ?_; refine zM ?_; refine zM ?_
 refine s_append_own hN rfl rfl rfl rfl rfl rfl (all_okE okE_en _) (by simp; omega) rfl rfl rfl rfl ?_
 refine zM ?_
 refine s_append_own hN rfl rfl rfl (by simp) rfl rfl (all_okE okE_en _) (by simp; omega) rfl rfl rfl rfl ?_
 refine zT ?_; refine zH ?_; refine zT ?_; refine awp_block ?_
 refine awp_weak (weak_frow 5 0 rfl rfl (by simp) (by rw [List.all_append]; simp only [List.all_append, all_okE okE_en, List.all_nil, Bool.and_self]) (fun e he => by
  simp only [List.nil_append, List.mem_append] at he
  exact he.elim (fzs_enl _ e) (fzs_enl _ e)) rfl) ?_
 refine awp_weak (weak_own rfl 6 114 2 rfl) ?_
 refine awp_loop (fun x : {k : Nat // k ≤ ((a ++ b)).length ∧ True} => ⟨[(5, ens (a ++ b)), (6, .own 1 (maxT (a ++ b) x.1).length), (7, i64 (x.1 : Nat))], [(1, .arr 114 2 ((maxT (a ++ b) x.1).map enC))], 2⟩) (fun x => ((a ++ b)).length - x.1) (⟨0, Nat.zero_le _, by simp⟩) ?_ ?_
 ·
  exact weak_scrub' rfl ⟨(cgL (by simp)), rfl, (cgO rfl), rfl, (zz1 trivial)⟩ ⟨(cgA rfl), rfl, (ok_arr (fun _ => rfl) _), trivial⟩
 rintro ⟨k, hk, hg⟩
 dsimp only
 refine zH ?_; refine zM ?_; refine zM ?_; refine zE ?_; refine zB ?_; refine zN ?_
 refine zq ?_ ?_ <;> intro h9
 ·
  refine a_lm 5 rfl (fun hl8 => ?_)
  have hlt : k < (a ++ b).length := by have := of_decide_eq_true h9; rw [List.length_map] at this; omega
  obtain ⟨x, hx⟩ := get_lt hlt
  have hml := maxT_len (a ++ b) k
  have hap : (a ++ b).length = a.length + b.length := List.length_append
  refine zW ?_; refine awp_seq ?_; refine awp_block ?_; refine zG ?_; refine zT ?_; refine zH ?_; refine zT ?_; refine awp_block ?_
  refine awp_loop (fun z : {j : Nat // j ≤ (a ++ b).length} => ⟨[(5, ens (a ++ b)), (6, .own 1 (maxT (a ++ b) k).length), (7, i64 (k : Nat)), (8, bl (((a ++ b).zipIdx.take z.1).all (keepQ (x, k)))), (9, i64 (z.1 : Nat))], [(1, .arr 114 2 ((maxT (a ++ b) k).map enC))], 2⟩) (fun z => (a ++ b).length - z.1) (⟨0, Nat.zero_le _⟩) ?_ ?_
  ·
   exact weak_scrub' rfl (zz3 ⟨(cgB (by simp)), rfl, (zz1 trivial)⟩) ⟨rfl, rfl, (ok_arr (fun _ => rfl) _), trivial⟩
  rintro ⟨j, hj⟩
  dsimp only
  refine zH ?_; refine zM ?_; refine zM ?_; refine zE ?_; refine zB ?_; refine zN ?_
  refine zq ?_ ?_ <;> intro h16
  ·
   have hjl : j < (a ++ b).length := by have := of_decide_eq_true h16; rw [List.length_map] at this; omega
   obtain ⟨y, hy⟩ := get_lt hjl
   refine zW ?_; refine awp_seq ?_; refine awp_block ?_; refine awp_seq ?_; refine awp_draw 10 (by kernel_rfl) (by kernel_rfl) ?_; refine zm ?_
   refine zm ?_; refine zp (q_elem rfl rfl rfl k rfl _ (map_get hx) rfl) ?_; refine zl ?_; refine zm ?_; refine zm ?_
   refine zp (q_elem rfl rfl rfl j rfl _ (map_get hy) rfl) ?_; refine zl ?_; refine zp (q_call (rcmpEn_fc x y) rfl rfl rfl) ?_
   refine zp (q_bin rfl rfl rfl) ?_; change AOps _ _ _ _ _ _; refine zT ?_; refine awp_seq ?_; refine awp_draw 20 (by kernel_rfl) (by kernel_rfl) ?_
   refine zm ?_; refine zm ?_
   refine zd 41 ?_ ?_ <;> intro h22
   ·
    refine vP (w11 h22) (q_move rfl rfl) ?_; refine vP (w11 h22) (q_move rfl rfl) ?_; refine vP (w11 h22) (q_bin rfl rfl rfl) ?_
    refine zp (q_pick1 rfl rfl h22 rfl) ?_; refine zm ?_
    refine zd 46 ?_ ?_ <;> intro h23
    ·
     iterate 3 refine vK (w10 h23) ?_
     iterate 9 refine zk ?_
     refine vK (w10 h23) ?_; change AOps _ _ _ _ _ _; refine zh1 h23 ?_; refine zN ?_; refine c_true rfl rfl ?_; refine awp_region ?_; refine zS ?_
     refine aops_nil ?_; change AWP _ _ _ _  _; refine awp_region ?_; refine zM ?_; refine zP (q_addi rfl rfl rfl (by omega)) ?_; refine zS ?_
     refine aops_nil ?_
     exact ⟨⟨j + 1, hjl⟩, weak_scrub' rfl (zz3 ⟨(cgB (by rw [all_take (zipE_get hy)]; simp_all [keepQ])), rfl, (cgI (by dsimp only; omega)), rfl, trivial⟩) ⟨rfl, rfl, (ok_arr (fun _ => rfl) _), trivial⟩, by dsimp only; omega⟩
    refine vP (w00 h23) (q_move rfl rfl) ?_; refine vP (w00 h23) (q_not rfl rfl) ?_; refine vP (w00 h23) (q_move rfl rfl) ?_
    iterate 9 refine vK (w01 (m1 h22)) ?_
    refine vP (w00 h23) (q_pick0 rfl rfl (m1 h22) rfl) ?_; change AOps _ _ _ _ _ _; refine zh0 h23 ?_; refine zN ?_; refine c_false rfl rfl ?_
    refine awp_skip ?_; change AWP _ _ _ _  _; refine awp_region ?_; refine zM ?_; refine zP (q_addi rfl rfl rfl (by omega)) ?_; refine zS ?_
    refine aops_nil ?_
    exact ⟨⟨j + 1, hjl⟩, weak_scrub' rfl (zz3 ⟨(cgB (by rw [all_take (zipE_get hy)]; simp_all [keepQ])), rfl, (cgI (by dsimp only; omega)), rfl, trivial⟩) ⟨rfl, rfl, (ok_arr (fun _ => rfl) _), trivial⟩, by dsimp only; omega⟩
   iterate 3 refine vK (w01 h22) ?_
   refine zp (q_pick0 rfl rfl h22 rfl) ?_; refine zm ?_; refine zm ?_; refine zp (q_not rfl rfl) ?_; refine zm ?_
   refine vP (w11 (m0 h22)) (q_move rfl rfl) ?_; refine vP (w11 (m0 h22)) (q_move rfl rfl) ?_
   refine vP (w11 (m0 h22)) (q_elem rfl rfl rfl k rfl _ (map_get hx) rfl) ?_; refine vP (w11 (m0 h22)) (q_load rfl rfl rfl rfl rfl) ?_
   refine vP (w11 (m0 h22)) (q_move rfl rfl) ?_; refine vP (w11 (m0 h22)) (q_move rfl rfl) ?_
   refine vP (w11 (m0 h22)) (q_elem rfl rfl rfl j rfl _ (map_get hy) rfl) ?_; refine vP (w11 (m0 h22)) (q_load rfl rfl rfl rfl rfl) ?_
   refine vP (w11 (m0 h22)) (q_call (rUnder_fc x y) rfl rfl rfl) ?_; refine zp (q_pick1 rfl rfl (m0 h22) rfl) ?_; change AOps _ _ _ _ _ _
   refine zh0 rfl ?_; refine zN ?_
   refine zq ?_ ?_ <;> intro h30
   ·
    refine awp_region ?_; refine zS ?_; refine aops_nil ?_; change AWP _ _ _ _  _; refine awp_region ?_; refine zM ?_
    refine zP (q_addi rfl rfl rfl (by omega)) ?_; refine zS ?_; refine aops_nil ?_
    exact ⟨⟨j + 1, hjl⟩, weak_scrub' rfl (zz3 ⟨(cgB (by rw [all_take (zipE_get hy)]; simp_all [keepQ])), rfl, (cgI (by dsimp only; omega)), rfl, trivial⟩) ⟨rfl, rfl, (ok_arr (fun _ => rfl) _), trivial⟩, by dsimp only; omega⟩
   refine awp_skip ?_; change AWP _ _ _ _  _; refine awp_region ?_; refine zM ?_; refine zP (q_addi rfl rfl rfl (by omega)) ?_; refine zS ?_
   refine aops_nil ?_
   exact ⟨⟨j + 1, hjl⟩, weak_scrub' rfl (zz3 ⟨(cgB (by rw [all_take (zipE_get hy)]; simp_all [keepQ])), rfl, (cgI (by dsimp only; omega)), rfl, trivial⟩) ⟨rfl, rfl, (ok_arr (fun _ => rfl) _), trivial⟩, by dsimp only; omega⟩
  have hgej : (a ++ b).length ≤ j := by have := of_decide_eq_false h16; rw [List.length_map] at this; omega
  rw [List.take_of_length_le (show (a ++ b).zipIdx.length ≤ j by rw [zipE_len]; exact hgej)]
  refine awp_exit ?_; change AWP _ _ _ _  _; refine zG ?_; refine zV ?_
  refine zq ?_ ?_ <;> intro h13
  ·
   have hK : keepE (a ++ b) (x, k) = true := h13
   refine awp_region ?_; refine zM ?_; refine zM ?_; refine zM ?_; refine zP (q_elem rfl rfl rfl k rfl _ (map_get hx) rfl) ?_; refine zL ?_
   refine zP (q_bslice rfl rfl rfl rfl (by exact rfl) (by decide) (by decide)) ?_
   refine s_append_own hN rfl rfl rfl (by simp) rfl rfl rfl (by simp [chunk_en2]; omega) rfl rfl rfl rfl ?_
   refine zS ?_; refine aops_nil ?_; change AWP _ _ _ _  _; refine awp_region ?_; refine zM ?_; refine zP (q_addi rfl rfl rfl (by omega)) ?_
   refine zS ?_; refine aops_nil ?_
   exact ⟨⟨k + 1, hlt, trivial⟩, weak_scrub' rfl (zz1 ⟨(cgO (by first | (rw [maxT_yes hx hK]; simp [chunk_en2]; done) | rw [maxT_no hx hK])), rfl, (cgI (by dsimp only; omega)), rfl, trivial⟩) ⟨(cgA (by first | (rw [maxT_yes hx hK]; simp [chunk_en2, enC]; done) | rw [maxT_no hx hK])), rfl, (ok_arr (fun _ => rfl) _), trivial⟩, by dsimp only; omega⟩
  have hK : keepE (a ++ b) (x, k) = false := h13
  refine awp_skip ?_; change AWP _ _ _ _  _; refine awp_region ?_; refine zM ?_; refine zP (q_addi rfl rfl rfl (by omega)) ?_; refine zS ?_
  refine aops_nil ?_
  exact ⟨⟨k + 1, hlt, trivial⟩, weak_scrub' rfl (zz1 ⟨(cgO (by first | (rw [maxT_yes hx hK]; simp [chunk_en2]; done) | rw [maxT_no hx hK])), rfl, (cgI (by dsimp only; omega)), rfl, trivial⟩) ⟨(cgA (by first | (rw [maxT_yes hx hK]; simp [chunk_en2, enC]; done) | rw [maxT_no hx hK])), rfl, (ok_arr (fun _ => rfl) _), trivial⟩, by dsimp only; omega⟩
 have hge : (a ++ b).length ≤ k := by have := of_decide_eq_false h9; rw [List.length_map] at this; omega
 rw [maxT_all hge]
 refine awp_exit ?_; change AWP _ _ _ _  _; refine zH ?_; refine zT ?_; refine awp_block ?_
 refine awp_loop (fun z : {q : Nat × List En // q.1 ≤ q.2.length ∧ q.2.Perm (maxE (a ++ b)) ∧ selP q.2 q.1} => ⟨[(6, .own 1 z.1.2.length), (11, i64 (z.1.1 : Nat))], [(1, .arr 114 2 (z.1.2.map enC))], 2⟩) (fun z => (maxE (a ++ b)).length - z.1.1) (⟨(0, maxE (a ++ b)), Nat.zero_le _, List.Perm.refl _, selP_zero _⟩) ?_ ?_
 ·
  exact weak_scrub' rfl (zz2 trivial) ⟨rfl, rfl, (ok_arr (fun _ => rfl) _), trivial⟩
 rintro ⟨⟨k, o⟩, hk, hpm, hP⟩
 dsimp only at hk hpm hP ⊢
 have hol := hpm.length_eq
 have hml := maxT_len (a ++ b) (a ++ b).length
 rw [maxT_all (Nat.le_refl _), List.length_append] at hml
 refine zH ?_; refine zM ?_; refine zM ?_; refine zP ((q_len_own rfl rfl rfl (by simp))) ?_; refine zB ?_; refine zN ?_
 refine zq ?_ ?_ <;> intro h42
 ·
  have hlt : k < o.length := by simpa using h42
  refine zW ?_; refine awp_seq ?_; refine awp_block ?_; refine zG ?_; refine zM ?_; refine zP (q_addi rfl rfl rfl (by omega)) ?_; refine zT ?_
  refine awp_block ?_
  refine awp_loop (fun z : {q : Nat × List En // k + 1 ≤ q.1 ∧ q.1 ≤ q.2.length ∧ q.2.Perm (maxE (a ++ b)) ∧ selP q.2 k ∧ selQ q.2 k q.1} => ⟨[(6, .own 1 z.1.2.length), (11, i64 (k : Nat)), (12, i64 (z.1.1 : Nat))], [(1, .arr 114 2 (z.1.2.map enC))], 2⟩) (fun z => (maxE (a ++ b)).length - z.1.1) (⟨(k + 1, o), Nat.le_refl _, hlt, hpm, hP, selQ_zero _ _⟩) ?_ ?_
  ·
   exact weak_scrub' rfl (zz2 ⟨(cgI (by dsimp only; omega)), rfl, trivial⟩) ⟨rfl, rfl, (ok_arr (fun _ => rfl) _), trivial⟩
  rintro ⟨⟨j, o2⟩, hkj, hjo, hpm2, hP2, hQ2⟩
  dsimp only at hkj hjo hpm2 hP2 hQ2 ⊢
  have hol2 := hpm2.length_eq
  refine zH ?_; refine zM ?_; refine zM ?_; refine zP ((q_len_own rfl rfl rfl (by simp))) ?_; refine zB ?_; refine zN ?_
  refine zq ?_ ?_ <;> intro h48
  ·
   have hjl : j < o2.length := by simpa using h48
   obtain ⟨y, hy⟩ := get_lt hjl
   obtain ⟨x, hx⟩ := get_lt (show k < o2.length by omega)
   refine zW ?_; refine awp_seq ?_; refine awp_block ?_; refine awp_seq ?_; refine awp_draw 9 (by kernel_rfl) (by kernel_rfl) ?_; refine zm ?_
   refine zm ?_; refine zp (q_eown rfl rfl rfl rfl (by simp) j rfl (by omega)) ?_
   refine zp (q_loadO rfl rfl rfl (by simp) (len2 _) j rfl (map_get hy) (load_en _) rfl) ?_; refine zm ?_; refine zm ?_
   refine zp (q_eown rfl rfl rfl rfl (by simp) k rfl (by omega)) ?_
   refine zp (q_loadO rfl rfl rfl (by simp) (len2 _) k rfl (map_get hx) (load_en _) rfl) ?_; refine zp (q_call (rcmpEn_fc y x) rfl rfl rfl) ?_
   change AOps _ _ _ _ _ _; refine zB ?_; refine zN ?_
   refine zq ?_ ?_ <;> intro h54
   ·
    have hlt2 : cmpEn y x < 0 := by simpa using h54
    refine awp_take 16 rfl (by kernel_rfl) (by kernel_rfl) (fun _ _ h => h) ?_
    refine at_take 0 rfl (by kernel_rfl) (by kernel_rfl) rfl (wi_move hN rfl rfl rfl rfl rfl rfl) ?_
    refine at_take 1 rfl (by kernel_rfl) (by kernel_rfl) rfl (wi_move hN rfl rfl rfl rfl rfl rfl) ?_
    refine at_take 2 rfl (by kernel_rfl) (by kernel_rfl) rfl (wi_move hN rfl rfl rfl rfl rfl rfl) ?_
    refine at_take 3 rfl (by kernel_rfl) (by kernel_rfl) rfl (wi_move hN rfl rfl rfl rfl rfl rfl) ?_
    refine at_take 4 rfl (by kernel_rfl) (by kernel_rfl) rfl (wi_move hN rfl rfl rfl rfl rfl rfl) ?_
    refine at_take 5 rfl (by kernel_rfl) (by kernel_rfl) rfl (wi_move hN rfl rfl rfl rfl rfl rfl) ?_
    refine at_take 6 rfl (by kernel_rfl) (by kernel_rfl) rfl (wi_eown hN rfl rfl rfl rfl (by simp) j rfl (by omega) rfl rfl rfl rfl) ?_
    refine at_take 8 rfl (by kernel_rfl) (by kernel_rfl) rfl (wi_move hN rfl rfl rfl rfl rfl rfl) ?_
    refine at_take 9 rfl (by kernel_rfl) (by kernel_rfl) rfl (wi_move hN rfl rfl rfl rfl rfl rfl) ?_
    refine at_take 10 rfl (by kernel_rfl) (by kernel_rfl) rfl (wi_eown hN rfl rfl rfl rfl (by simp) k rfl (by omega) rfl rfl rfl rfl) ?_
    refine at_all [7, 11] (by kernel_rfl) rfl ⟨.inl (ao_py rfl ?_), .inl (ao_py rfl ?_), trivial⟩
    ·
     refine zp (q_loadO rfl rfl rfl (by simp) (len2 _) j rfl (map_get hy) (load_en _) rfl) ?_
     change AT _ _ _ _ _ _ _ _
     refine at_all [11] (by kernel_rfl) rfl ⟨.inl (ao_py rfl ?_), trivial⟩
     refine zp (q_loadO rfl rfl rfl (by simp) (len2 _) k rfl (map_get hx) (load_en _) rfl) ?_
     change AT _ _ _ _ _ _ _ _
     refine at_all [12] (by kernel_rfl) rfl ⟨.inl (ao_py rfl ?_), trivial⟩
     refine zp (q_eown rfl rfl rfl rfl (by simp) k rfl (by omega)) ?_
     change AT _ _ _ _ _ _ _ _
     refine at_all [13] (by kernel_rfl) rfl ⟨.inr (ao_storeO rfl rfl rfl rfl (by simp) k rfl (by simp; omega) rfl rfl rfl rfl (len2 _) rfl rfl rfl rfl ?_), trivial⟩
     change AT _ _ _ _ _ _ _ _
     refine at_all [14] (by kernel_rfl) rfl ⟨.inl (ao_py rfl ?_), trivial⟩
     refine zp (q_eown rfl rfl rfl rfl (by simp) j rfl (by omega)) ?_
     change AT _ _ _ _ _ _ _ _
     refine at_all [15] (by kernel_rfl) rfl ⟨.inr (ao_storeO rfl rfl rfl rfl (by simp) j rfl (by simp; omega) rfl rfl rfl rfl (by rw [set_en]; exact len2 _) rfl rfl rfl rfl ?_), trivial⟩
     change AT _ _ _ _ _ _ _ _
     refine at_done (by kernel_rfl) ?_; change AWP _ _ _ _  _; refine awp_region ?_; refine zM ?_; refine zP (q_addi rfl rfl rfl (by omega)) ?_
     refine zS ?_; refine aops_nil ?_
     exact ⟨⟨(j + 1, swp o2 k j x y), by omega, by dsimp only; rw [swp_len]; exact hjl, (swp_perm hx hy).trans hpm2, (sel_swap (by omega) hP2 hQ2 hx hy hlt2).1, (sel_swap (by omega) hP2 hQ2 hx hy hlt2).2⟩, weak_scrub' rfl ⟨(cgO (by first | rfl | exact swp_len.symm)), rfl, rfl, rfl, (cgI (by dsimp only; omega)), rfl, trivial⟩ ⟨(cgA (by first | rfl | (rw [set_en, set_en]; rfl))), rfl, (ok_arr (fun _ => rfl) _), trivial⟩, by dsimp only; omega⟩
    refine zp (q_loadO rfl rfl rfl (by simp) (len2 _) k rfl (map_get hx) (load_en _) rfl) ?_
    change AT _ _ _ _ _ _ _ _
    refine at_all [7] (by kernel_rfl) rfl ⟨.inl (ao_py rfl ?_), trivial⟩
    refine zp (q_loadO rfl rfl rfl (by simp) (len2 _) j rfl (map_get hy) (load_en _) rfl) ?_
    change AT _ _ _ _ _ _ _ _
    refine at_all [12] (by kernel_rfl) rfl ⟨.inl (ao_py rfl ?_), trivial⟩
    refine zp (q_eown rfl rfl rfl rfl (by simp) k rfl (by omega)) ?_
    change AT _ _ _ _ _ _ _ _
    refine at_all [13] (by kernel_rfl) rfl ⟨.inr (ao_storeO rfl rfl rfl rfl (by simp) k rfl (by simp; omega) rfl rfl rfl rfl (len2 _) rfl rfl rfl rfl ?_), trivial⟩
    change AT _ _ _ _ _ _ _ _
    refine at_all [14] (by kernel_rfl) rfl ⟨.inl (ao_py rfl ?_), trivial⟩
    refine zp (q_eown rfl rfl rfl rfl (by simp) j rfl (by omega)) ?_
    change AT _ _ _ _ _ _ _ _
    refine at_all [15] (by kernel_rfl) rfl ⟨.inr (ao_storeO rfl rfl rfl rfl (by simp) j rfl (by simp; omega) rfl rfl rfl rfl (by rw [set_en]; exact len2 _) rfl rfl rfl rfl ?_), trivial⟩
    change AT _ _ _ _ _ _ _ _
    refine at_done (by kernel_rfl) ?_; change AWP _ _ _ _  _; refine awp_region ?_; refine zM ?_; refine zP (q_addi rfl rfl rfl (by omega)) ?_
    refine zS ?_; refine aops_nil ?_
    exact ⟨⟨(j + 1, swp o2 k j x y), by omega, by dsimp only; rw [swp_len]; exact hjl, (swp_perm hx hy).trans hpm2, (sel_swap (by omega) hP2 hQ2 hx hy hlt2).1, (sel_swap (by omega) hP2 hQ2 hx hy hlt2).2⟩, weak_scrub' rfl ⟨(cgO (by first | rfl | exact swp_len.symm)), rfl, rfl, rfl, (cgI (by dsimp only; omega)), rfl, trivial⟩ ⟨(cgA (by first | rfl | (rw [set_en, set_en]; rfl))), rfl, (ok_arr (fun _ => rfl) _), trivial⟩, by dsimp only; omega⟩
   have hge2 : 0 ≤ cmpEn y x := by simpa using h54
   refine awp_skip ?_; change AWP _ _ _ _  _; refine awp_region ?_; refine zM ?_; refine zP (q_addi rfl rfl rfl (by omega)) ?_; refine zS ?_
   refine aops_nil ?_
   exact ⟨⟨(j + 1, o2), by omega, hjl, hpm2, hP2, sel_stay hQ2 hx hy hge2⟩, weak_scrub' rfl ⟨(cgO (by first | rfl | exact swp_len.symm)), rfl, rfl, rfl, (cgI (by dsimp only; omega)), rfl, trivial⟩ ⟨(cgA (by first | rfl | (rw [set_en, set_en]; rfl))), rfl, (ok_arr (fun _ => rfl) _), trivial⟩, by dsimp only; omega⟩
  have hgej : o2.length ≤ j := by simpa using h48
  refine awp_exit ?_; change AWP _ _ _ _  _; refine awp_region ?_; refine zM ?_; refine zP (q_addi rfl rfl rfl (by omega)) ?_; refine zS ?_
  refine aops_nil ?_
  exact ⟨⟨(k + 1, o2), by dsimp only; omega, hpm2, sel_end hP2 (by
   have e : j = o2.length := by omega
   rw [← e]; exact hQ2)⟩, weak_scrub' rfl (zz1 ⟨(cgI (by dsimp only; omega)), rfl, trivial⟩) ⟨rfl, rfl, (ok_arr (fun _ => rfl) _), trivial⟩, by dsimp only; omega⟩
 have hge : o.length ≤ k := by simpa using h42
 obtain rfl : k = o.length := by omega
 have hE := sel_eq ha hb hpm hP
 refine awp_exit ?_; change AWP _ _ _ _  _; refine zG ?_; refine zM ?_; refine zT ?_
 refine awp_weak (weak_frow 4 1 rfl rfl (by simp) (all_okE okE_en _) (fzs_enl _) rfl) ?_; refine zR ?_
 rw [hE]
end Go.Proofs.YtnjmbgnaplomaaaGreat
