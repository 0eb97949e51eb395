/-
  Contracts: registers, bottom elements.
-/
import Derived.Test.YtaecccdkjmipeaaGreatB5
namespace Go.Proofs.YtaecccdkjmipeaaGreat
open Go.RowKit
def regF (e f : En) : Bool := !(cmpC e.1 f.1 == 1 || cmpC e.1 f.1 == 2)
def regE (l : List En) (e : En) (i : Nat) : Bool := !((e.1.length : Int) == 0) && validC (-1) e.1 && validB e.2 && !(decide ((i : Int) > 0) && (match l[i - 1]? with | some y => decide (cmpEn y e ≥ 0) | none => false)) && (l.take i).all (regF e)
def regP (l : List En) (p : En × Nat) : Bool := regE l p.1 p.2
def regB (l : List En) : Bool := l.zipIdx.all (regP l)
theorem zipE_get {l : List En} {k : Nat} {x : En} (h : l[k]? = some x) : l.zipIdx[k]? = some (x, k) := by simp [h]
theorem zipE_len (l : List En) : l.zipIdx.length = l.length := by simp
mutual
def bottomV : Lat → Val
 | .mk k lo hi _ ps _ => .mk (if k == 2 then lo else if k == 3 then hi else 0) [] (if k == 6 || k == 7 then bottomVs ps else []) []
def bottomVs : List Lat → List Val
 | [] => []
 | p :: r => bottomV p :: bottomVs r
end
theorem bottomVs_map : ∀ l : List Lat, bottomVs l = l.map bottomV
 | [] => by simp [bottomVs]
 | p :: r => by simp only [bottomVs, List.map_cons]; rw [bottomVs_map r]
theorem bottomV_eq (l : Lat) : bottomV l = .mk (if l.k == 2 then l.lo else if l.k == 3 then l.hi else 0) [] (if l.k == 6 || l.k == 7 then l.ps.map bottomV else []) [] := by
 cases l with
 | mk k lo hi nm ps rs => rw [bottomV, bottomVs_map]; rfl
theorem okE_val (v : Val) : okE 4 (valC v) = true := by rw [valC_eq]; rfl
theorem chunk_4 (a b c d : AV) : chunkA 4 1 [a, b, c, d] = [[a, b, c, d]] := rfl
theorem cgV {tt : TypeId} {a b d : AV} {es es' : List (List AV)} {tk : Option Nat} (h : es = es') : some (AObj.var tt [a, b, .sl es tk, d]) = some (AObj.var tt [a, b, .sl es' tk, d]) := by rw [h]
theorem bot_step {l : List Lat} {k : Nat} {x : Lat} (h : l[k]? = some x) : (((l.take k).map bottomV).map valC) ++ chunkA 4 1 (valL (bottomV x)) = (((l.take (k + 1)).map bottomV).map valC) := by
 rw [chunk_4, List.take_add_one, h]
 simp [valC_eq]
theorem agg4 {a b c d a' b' c' d' : AV} (h1 : a = a') (h2 : b = b') (h3 : c = c') (h4 : d = d') : AV.agg [a, b, c, d] = AV.agg [a', b', c', d'] := by rw [h1, h2, h3, h4]

/-- a description that is whole, all the way down -/
inductive OkL : Lat → Prop
 | mk (l : Lat) (h1 : shapeX l = 0) (h2 : orE [limitsX l, spellX l, rangesX l, chainsX l] = 0) (h3 : l.ps.length ≤ 64) (h4 : ∀ p ∈ l.ps, OkL p) : OkL l
theorem visitF_ok : ∀ (f : Nat) (l : Lat) (n : Int), 0 ≤ n → (visitF f l n).1 = 0 → OkL l ∧ n + 1 ≤ (visitF f l n).2 ∧ (visitF f l n).2 ≤ 64
 | 0, l, n, _, h => by simp [visitF] at h
 | f + 1, l, n, hn, h => by
  by_cases h64 : n ≥ 64
  ·rw [v_big h64] at h; simp at h
  have h64 : n < 64 := by omega
  cases hs : shapeX l != 0 with
  | true => rw [v_shape h64 hs] at h; simp at h; simp [h] at hs
  | false =>
   cases ho : orE [limitsX l, spellX l, rangesX l, chainsX l] != 0 with
   | true => rw [v_or h64 hs ho] at h; simp at h; simp [h] at ho
   | false =>
    rw [v_list h64 hs ho] at h ⊢
    have key : ∀ (q : Lat) (m : Int), 0 ≤ m → (visitF f q m).1 = 0 → OkL q ∧ m + 1 ≤ (visitF f q m).2 ∧ (visitF f q m).2 ≤ 64 := fun q m hm hq => visitF_ok f q m hm hq
    have all : ∀ (ps : List Lat) (m : Int), 0 ≤ m → m ≤ 64 → (visitL (visitF f) ps m).1 = 0 → (∀ p ∈ ps, OkL p) ∧ m + ps.length ≤ (visitL (visitF f) ps m).2 ∧ (visitL (visitF f) ps m).2 ≤ 64 := by
     intro ps
     induction ps with
     | nil => intro m _ h1 _; simpa [visitL] using h1
     | cons q r ih =>
      intro m h0 h1 h2
      unfold visitL at h2 ⊢
      split at h2
      ·rename_i hz
       rw [if_pos hz]
       obtain ⟨k1, k2, k3⟩ := key q m h0 (by simpa using hz)
       obtain ⟨k4, k5, k6⟩ := ih _ (by omega) k3 h2
       refine ⟨fun p hp => ?_, by simp only [List.length_cons]; omega, k6⟩
       rcases List.mem_cons.1 hp with rfl | hp
       ·exact k1
       exact k4 p hp
      rename_i hz
      exact absurd (by simpa using h2) hz
    obtain ⟨k1, k2, k3⟩ := all l.ps (n + 1) (by omega) (by omega) h
    exact ⟨.mk l (by simpa using hs) (by simpa using ho) (by omega) k1, by omega, k3⟩
theorem check_ok {l : Lat} (h : checkX l = 0) : OkL l := (visitF_ok 6 l 0 (by decide) h).1
theorem OkL.shape {l : Lat} (h : OkL l) : shapeX l = 0 := by cases h; assumption
theorem OkL.small {l : Lat} (h : OkL l) : l.ps.length ≤ 64 := by cases h; assumption
theorem OkL.part {l : Lat} (h : OkL l) : ∀ p ∈ l.ps, OkL p := by cases h; assumption

set_option maxRecDepth 100000 in
set_option maxHeartbeats 1000000 in
theorem reg_fc (l : List En) : FC Tryz.prog 206 [ens l] (bl (regB l)) := by
 refine fc_of_awp [2] Tryz.func206 rfl rfl 66 Tryz.ntmps206 (Nat.le_of_ble_eq_true rfl) ?_
 intro E hN
 refine a_lm 0 rfl (fun hl0 => ?_)
 refine rn12 ?_
 refine awp_loop (fun x : {k : Nat // k ≤ (l).length ∧ (l.zipIdx.drop k).all (regP l) = l.zipIdx.all (regP l)} => ⟨[(0, ens l), (8, ens l), (9, i64 l.length), (10, i64 (x.1 : Nat))], [], 0⟩) (fun x => (l).length - x.1) (⟨0, Nat.zero_le _, by simp⟩) ?_ ?_
 ·
  exact weak_scrub' rfl (zz2 ⟨(cgI (by simp)), rfl, (zz1 trivial)⟩) trivial
 rintro ⟨k, hk, hg⟩
 dsimp only
 refine rn5 ?_
 refine zq ?_ ?_ <;> intro h7
 ·
  have hlt : k < (l).length := by simpa using h7
  obtain ⟨x, hx⟩ := get_lt hlt
  refine rn6 ?_; refine zP (q_elem rfl rfl rfl k rfl _ (map_get hx) rfl) ?_; refine rn7 ?_; refine awp_draw 29 (by kernel_rfl) (by kernel_rfl) ?_
  refine rn5 ?_
  refine zd 19 ?_ ?_ <;> intro h15
  ·
   iterate 4 refine vK (w10 h15) ?_
   refine zp (q_pick1 rfl rfl h15 rfl) ?_; refine rn5 ?_; refine zp (q_pick1 rfl rfl rfl rfl) ?_; refine rn13 ?_; change AOps _ _ _ _ _ _
   refine zh1 rfl ?_; refine zN ?_; refine c_true rfl rfl ?_; refine rn3 ?_; refine zQ ?_
   exact retB (all_no hg (zipE_get hx) (by simp_all [regP, regE])).symm
  refine vP (w00 h15) (q_fieldAddr rfl rfl rfl rfl) ?_; refine vP (w00 h15) (q_load rfl rfl rfl rfl rfl) ?_
  refine vP (w00 h15) (q_call (validC_fc _) rfl rfl rfl) ?_; refine vP (w00 h15) (q_not rfl rfl) ?_; refine zp (q_pick0 rfl rfl h15 rfl) ?_
  refine zm ?_
  refine zd 25 ?_ ?_ <;> intro h18
  ·
   iterate 4 refine vK (w10 (m0 (n1 h18))) ?_
   refine zp (q_pick1 rfl rfl (m0 (n1 h18)) rfl) ?_; refine rn13 ?_; change AOps _ _ _ _ _ _; refine zh1 rfl ?_; refine zN ?_; refine c_true rfl rfl ?_
   refine rn3 ?_; refine zQ ?_
   exact retB (all_no hg (zipE_get hx) (by simp_all [regP, regE])).symm
  refine vP (w00 (m1 (n0 h18))) (q_fieldAddr rfl rfl rfl rfl) ?_; refine vP (w00 (m1 (n0 h18))) (q_load rfl rfl rfl rfl rfl) ?_
  refine vP (w00 (m1 (n0 h18))) (q_call (valid_fc _) rfl rfl rfl) ?_; refine vP (w00 (m1 (n0 h18))) (q_not rfl rfl) ?_
  refine zp (q_pick0 rfl rfl (m1 (n0 h18)) rfl) ?_; refine zm ?_
  refine zd 31 ?_ ?_ <;> intro h21
  ·
   iterate 3 refine vK (w10 (m0 (n1 h21))) ?_
   refine rn8 ?_; refine vK (w10 (m0 (n1 h21))) ?_; change AOps _ _ _ _ _ _; refine zh1 (m0 (n1 h21)) ?_; refine zN ?_; refine c_true rfl rfl ?_
   refine rn3 ?_; refine zQ ?_
   exact retB (all_no hg (zipE_get hx) (by simp_all [regP, regE])).symm
  refine vP (w00 (m1 (n0 h21))) (q_move rfl rfl) ?_; refine vP (w00 (m1 (n0 h21))) (q_bin rfl rfl rfl) ?_
  refine vP (w00 (m1 (n0 h21))) (q_move rfl rfl) ?_
  refine zd 34 ?_ ?_ <;> intro h22
  ·
   have hk0 : 0 < k := by simpa using h22
   obtain ⟨y, hy⟩ := get_lt (show k - 1 < l.length by omega)
   refine vP (w11 h22) (q_move rfl rfl) ?_; refine vP (w11 h22) (q_move rfl rfl) ?_; refine vP (w11 h22) (q_subi rfl rfl rfl (by omega)) ?_
   refine vP (w11 h22) (q_elem rfl rfl rfl (k - 1) (by omega) _ (map_get hy) rfl) ?_; refine vP (w11 h22) (q_load rfl rfl rfl rfl rfl) ?_
   refine vP (w11 h22) (q_load rfl rfl rfl rfl rfl) ?_; refine vP (w11 h22) (q_call (cmpEn_fc _ _) rfl rfl rfl) ?_
   refine vP (w11 h22) (q_bin rfl rfl rfl) ?_; refine vP (w00 (m1 (n0 h21))) (q_pick1 rfl rfl h22 rfl) ?_; change AOps _ _ _ _ _ _
   refine zh0 (m1 (n0 h21)) ?_; refine zN ?_
   refine zq ?_ ?_ <;> intro h28
   ·
    refine rn3 ?_; refine zQ ?_
    exact retB (all_no hg (zipE_get hx) (by simp_all [regP, regE])).symm
   refine rn5 ?_; refine zP (q_to rfl rfl rfl k rfl (by omega) (by exact fun _ => rfl)) ?_; refine rn4 ?_
   refine awp_loop (fun x1 : {j : Nat // j ≤ (l.take k).length ∧ ((l.take k).drop j).all (regF x) = (l.take k).all (regF x)} => ⟨[(0, ens l), (4, .ptr 0 0), (8, ens l), (9, i64 l.length), (10, i64 (k : Nat)), (47, ens (l.take k)), (48, i64 (l.take k).length), (49, i64 (x1.1 : Nat))], [(0, .var 88 (enC x))], 1⟩) (fun x1 => (l.take k).length - x1.1) (⟨0, Nat.zero_le _, by simp⟩) ?_ ?_
   ·
    exact weak_scrub' rfl (zz4 (zz2 ⟨(cgI (by simp)), rfl, (zz1 trivial)⟩)) ⟨rfl, rfl, rfl, trivial⟩
   rintro ⟨j, hj, hgj⟩
   dsimp only
   have htk : (l.take k).length ≤ l.length := by simp; omega
   refine rn5 ?_
   refine zq ?_ ?_ <;> intro h39
   ·
    have hltj : j < (l.take k).length := by simpa using h39
    obtain ⟨y2, hy2⟩ := get_lt hltj
    refine rn5 ?_; refine zP (q_elem rfl rfl rfl j rfl _ (map_get hy2) rfl) ?_; refine rn10 ?_; refine zP (q_call (cmpC_fc _ _) rfl rfl rfl) ?_
    refine rn7 ?_
    refine zc 60 ?_ ?_ <;> intro h49
    ·
     iterate 2 refine uK (w10 h49) ?_
     refine zh1 h49 ?_; refine zN ?_; refine c_true rfl rfl ?_; refine rn3 ?_; refine zQ ?_
     exact retB (all_no hg (zipE_get hx) (by rw [regP, regE, all_no hgj hy2 (by simp_all [regF])]; simp)).symm
    refine uM (w00 h49) ?_; refine uP (w00 h49) (q_bin rfl rfl rfl) ?_; refine zh0 h49 ?_; refine zN ?_
    refine zq ?_ ?_ <;> intro h50
    ·
     refine rn3 ?_; refine zQ ?_
     exact retB (all_no hg (zipE_get hx) (by rw [regP, regE, all_no hgj hy2 (by simp_all [regF])]; simp)).symm
    refine rn2 ?_; refine zP (q_addi rfl rfl rfl (by omega)) ?_; refine zM ?_; refine aops_nil ?_
    exact ⟨⟨j + 1, hltj, all_go hgj hy2 (by simp_all [regF])⟩, weak_scrub' rfl (zz4 (zz3 ⟨(cgI (by dsimp only; omega)), rfl, trivial⟩)) ⟨rfl, rfl, rfl, trivial⟩, by dsimp only; omega⟩
   have hgej : (l.take k).length ≤ j := by simpa using h39
   have hA := all_end hgj hgej
   refine rn2 ?_; refine zP (q_addi rfl rfl rfl (by omega)) ?_; refine zM ?_; refine aops_nil ?_
   exact ⟨⟨k + 1, hlt, all_go hg (zipE_get hx) (by simp_all [regP, regE])⟩, weak_scrub' rfl (zz3 ⟨(cgI (by dsimp only; omega)), rfl, trivial⟩) trivial, by dsimp only; omega⟩
  iterate 8 refine vK (w01 h22) ?_
  refine vP (w00 (m1 (n0 h21))) (q_pick0 rfl rfl h22 rfl) ?_; change AOps _ _ _ _ _ _; refine zh0 (m1 (n0 h21)) ?_; refine zN ?_
  refine c_false rfl rfl ?_; refine rn5 ?_; refine zP (q_to rfl rfl rfl k rfl (by omega) (by exact fun _ => rfl)) ?_; refine rn4 ?_
  refine awp_loop (fun x1 : {j : Nat // j ≤ (l.take k).length ∧ ((l.take k).drop j).all (regF x) = (l.take k).all (regF x)} => ⟨[(0, ens l), (4, .ptr 0 0), (8, ens l), (9, i64 l.length), (10, i64 (k : Nat)), (47, ens (l.take k)), (48, i64 (l.take k).length), (49, i64 (x1.1 : Nat))], [(0, .var 88 (enC x))], 1⟩) (fun x1 => (l.take k).length - x1.1) (⟨0, Nat.zero_le _, by simp⟩) ?_ ?_
  ·
   exact weak_scrub' rfl (zz4 (zz2 ⟨(cgI (by simp)), rfl, (zz1 trivial)⟩)) ⟨rfl, rfl, rfl, trivial⟩
  rintro ⟨j, hj, hgj⟩
  dsimp only
  have htk : (l.take k).length ≤ l.length := by simp; omega
  refine rn5 ?_
  refine zq ?_ ?_ <;> intro h63
  ·
   have hltj : j < (l.take k).length := by simpa using h63
   obtain ⟨y2, hy2⟩ := get_lt hltj
   refine rn5 ?_; refine zP (q_elem rfl rfl rfl j rfl _ (map_get hy2) rfl) ?_; refine rn10 ?_; refine zP (q_call (cmpC_fc _ _) rfl rfl rfl) ?_
   refine rn7 ?_
   refine zc 60 ?_ ?_ <;> intro h73
   ·
    iterate 2 refine uK (w10 h73) ?_
    refine zh1 h73 ?_; refine zN ?_; refine c_true rfl rfl ?_; refine rn3 ?_; refine zQ ?_
    exact retB (all_no hg (zipE_get hx) (by rw [regP, regE, all_no hgj hy2 (by simp_all [regF])]; simp)).symm
   refine uM (w00 h73) ?_; refine uP (w00 h73) (q_bin rfl rfl rfl) ?_; refine zh0 h73 ?_; refine zN ?_
   refine zq ?_ ?_ <;> intro h74
   ·
    refine rn3 ?_; refine zQ ?_
    exact retB (all_no hg (zipE_get hx) (by rw [regP, regE, all_no hgj hy2 (by simp_all [regF])]; simp)).symm
   refine rn2 ?_; refine zP (q_addi rfl rfl rfl (by omega)) ?_; refine zM ?_; refine aops_nil ?_
   exact ⟨⟨j + 1, hltj, all_go hgj hy2 (by simp_all [regF])⟩, weak_scrub' rfl (zz4 (zz3 ⟨(cgI (by dsimp only; omega)), rfl, trivial⟩)) ⟨rfl, rfl, rfl, trivial⟩, by dsimp only; omega⟩
  have hgej : (l.take k).length ≤ j := by simpa using h63
  have hA := all_end hgj hgej
  refine rn2 ?_; refine zP (q_addi rfl rfl rfl (by omega)) ?_; refine zM ?_; refine aops_nil ?_
  exact ⟨⟨k + 1, hlt, all_go hg (zipE_get hx) (by simp_all [regP, regE])⟩, weak_scrub' rfl (zz3 ⟨(cgI (by dsimp only; omega)), rfl, trivial⟩) trivial, by dsimp only; omega⟩
 have hge : (l).length ≤ k := by simpa using h7
 refine rn4 ?_; refine zQ ?_
 exact retB (all_end hg (by rw [zipE_len]; exact hge)).symm
set_option maxRecDepth 100000 in
set_option maxHeartbeats 1000000 in
theorem bottom_s (l : Lat) (hp : l.ps.length ≤ 64) (ih : ∀ p ∈ l.ps, FC Tryz.prog 112 [.agg (latL p)] (.agg (valL (bottomV p)))) : FC Tryz.prog 112 [.agg (latL l)] (.agg (valL (bottomV l))) := by
 refine fc_of_awpR [.c 2 30 4 true] ⟨⟨inferInstance, rfl⟩, trivial⟩ Tryz.func112 rfl rfl 37 Tryz.ntmps112 (Nat.le_of_ble_eq_true rfl) ?_
 intro E hN
 refine rn21 ?_
 refine zq ?_ ?_ <;> intro h7
 ·
  refine rn11 ?_; refine awp_ret ?_
  change (resY _ _).bind AV.fzt = some _
  refine ret_r rfl ?_
  rw [bottomV_eq]
  refine agg4 (retI ?_) rfl ?_ rfl
  ·simp_all [Val.N]
  first | (simp_all [Val.ps]; done) | (refine retL ?_; simp_all [Val.ps, List.take_of_length_le])
 refine rn5 ?_
 refine zq ?_ ?_ <;> intro h14
 ·
  refine rn11 ?_; refine awp_ret ?_
  change (resY _ _).bind AV.fzt = some _
  refine ret_r rfl ?_
  rw [bottomV_eq]
  refine agg4 (retI ?_) rfl ?_ rfl
  ·simp_all [Val.N]
  first | (simp_all [Val.ps]; done) | (refine retL ?_; simp_all [Val.ps, List.take_of_length_le])
 refine rn6 ?_
 refine zq ?_ ?_ <;> intro h21
 ·
  refine zW ?_; refine c_true rfl h21 ?_; refine rn8 ?_; refine awp_weak (weak_tokc rfl 2 2 30 4 rfl rfl rfl) ?_
  refine awp_loop (fun x : {k : Nat // k ≤ (l.ps).length ∧ True} => ⟨[(2, .ptr 1 0), (3, .ptr 2 0), (22, lats l.ps), (23, i64 l.ps.length), (24, i64 (x.1 : Nat))], [(1, .var 30 [i64 0, .p (.slice none 0 0), .p (.slice none 0 0), .p (.slice none 0 0)]), (2, .var 30 [i64 0, .p (.slice none 0 0), .sl (((l.ps.take x.1).map bottomV).map valC) (some 3), .p (.slice none 0 0)]), (3, .tok 30 4 ((l.ps.take x.1).map bottomV).length)], 4⟩) (fun x => (l.ps).length - x.1) (⟨0, Nat.zero_le _, by simp⟩) ?_ ?_
  ·
   exact weak_scrub' rfl (zz3 ⟨(cgI (by simp)), rfl, (zz1 trivial)⟩) ⟨rfl, rfl, rfl, rfl, rfl, rfl, rfl, rfl, rfl, trivial⟩
  rintro ⟨k, hk, hg⟩
  dsimp only
  refine a_lm 22 rfl (fun hl8 => ?_)
  refine rn5 ?_
  refine zq ?_ ?_ <;> intro h30
  ·
   have hlt : k < (l.ps).length := by simpa using h30
   obtain ⟨x, hx⟩ := get_lt hlt
   refine rn5 ?_; refine zP (q_elem rfl rfl rfl k rfl _ (lat_get hx) rfl) ?_; refine rn4 ?_; refine awp_draw 5 (by kernel_rfl) (by kernel_rfl) ?_
   refine rn3 ?_; refine zp (q_call (ih x (List.mem_of_getElem? hx)) rfl rfl rfl) ?_
   refine zp (q_bslice rfl rfl rfl rfl (by exact rfl) (by decide) (by decide)) ?_; change AOps _ _ _ _ _ _
   refine s_append_tok hN rfl rfl rfl (by simp) rfl rfl (all_okE okE_val _) rfl (by simp [chunk_4]; omega) rfl rfl rfl rfl ?_
   refine rn4 ?_; refine zP (q_addi rfl rfl rfl (by omega)) ?_; refine zM ?_; refine aops_nil ?_
   exact ⟨⟨k + 1, hlt, trivial⟩, weak_scrub' rfl (zz4 ⟨(cgI (by dsimp only; omega)), rfl, trivial⟩) ⟨rfl, rfl, rfl, (cgV (bot_step hx)), rfl, rfl, (cgT (by simp [chunk_4]; omega)), rfl, rfl, trivial⟩, by dsimp only; omega⟩
  have hge : (l.ps).length ≤ k := by simpa using h30
  refine rn6 ?_; refine awp_ret ?_
  change (resY _ _).bind AV.fzt = some _
  refine ret_r rfl ?_
  rw [bottomV_eq]
  refine agg4 (retI ?_) rfl ?_ rfl
  ·simp_all [Val.N]
  first | (simp_all [Val.ps]; done) | (refine retL ?_; simp_all [Val.ps, List.take_of_length_le])
 refine rn4 ?_
 refine zq ?_ ?_ <;> intro h46
 ·
  refine rn8 ?_; refine awp_weak (weak_tokc rfl 2 2 30 4 rfl rfl rfl) ?_
  refine awp_loop (fun x : {k : Nat // k ≤ (l.ps).length ∧ True} => ⟨[(2, .ptr 1 0), (3, .ptr 2 0), (22, lats l.ps), (23, i64 l.ps.length), (24, i64 (x.1 : Nat))], [(1, .var 30 [i64 0, .p (.slice none 0 0), .p (.slice none 0 0), .p (.slice none 0 0)]), (2, .var 30 [i64 0, .p (.slice none 0 0), .sl (((l.ps.take x.1).map bottomV).map valC) (some 3), .p (.slice none 0 0)]), (3, .tok 30 4 ((l.ps.take x.1).map bottomV).length)], 4⟩) (fun x => (l.ps).length - x.1) (⟨0, Nat.zero_le _, by simp⟩) ?_ ?_
  ·
   exact weak_scrub' rfl (zz3 ⟨(cgI (by simp)), rfl, (zz1 trivial)⟩) ⟨rfl, rfl, rfl, rfl, rfl, rfl, rfl, rfl, rfl, trivial⟩
  rintro ⟨k, hk, hg⟩
  dsimp only
  refine a_lm 22 rfl (fun hl8 => ?_)
  refine rn5 ?_
  refine zq ?_ ?_ <;> intro h55
  ·
   have hlt : k < (l.ps).length := by simpa using h55
   obtain ⟨x, hx⟩ := get_lt hlt
   refine rn5 ?_; refine zP (q_elem rfl rfl rfl k rfl _ (lat_get hx) rfl) ?_; refine rn4 ?_; refine awp_draw 5 (by kernel_rfl) (by kernel_rfl) ?_
   refine rn3 ?_; refine zp (q_call (ih x (List.mem_of_getElem? hx)) rfl rfl rfl) ?_
   refine zp (q_bslice rfl rfl rfl rfl (by exact rfl) (by decide) (by decide)) ?_; change AOps _ _ _ _ _ _
   refine s_append_tok hN rfl rfl rfl (by simp) rfl rfl (all_okE okE_val _) rfl (by simp [chunk_4]; omega) rfl rfl rfl rfl ?_
   refine rn4 ?_; refine zP (q_addi rfl rfl rfl (by omega)) ?_; refine zM ?_; refine aops_nil ?_
   exact ⟨⟨k + 1, hlt, trivial⟩, weak_scrub' rfl (zz4 ⟨(cgI (by dsimp only; omega)), rfl, trivial⟩) ⟨rfl, rfl, rfl, (cgV (bot_step hx)), rfl, rfl, (cgT (by simp [chunk_4]; omega)), rfl, rfl, trivial⟩, by dsimp only; omega⟩
  have hge : (l.ps).length ≤ k := by simpa using h55
  refine rn6 ?_; refine awp_ret ?_
  change (resY _ _).bind AV.fzt = some _
  refine ret_r rfl ?_
  rw [bottomV_eq]
  refine agg4 (retI ?_) rfl ?_ rfl
  ·simp_all [Val.N]
  first | (simp_all [Val.ps]; done) | (refine retL ?_; simp_all [Val.ps, List.take_of_length_le])
 refine rn6 ?_; refine awp_ret ?_
 change (resY _ _).bind AV.fzt = some _
 refine ret_r rfl ?_
 rw [bottomV_eq]
 refine agg4 (retI ?_) rfl ?_ rfl
 ·simp_all [Val.N]
 first | (simp_all [Val.ps]; done) | (refine retL ?_; simp_all [Val.ps, List.take_of_length_le])
theorem bottom_fc (l : Lat) (h : OkL l) : FC Tryz.prog 112 [.agg (latL l)] (.agg (valL (bottomV l))) := bottom_s l h.small (fun p hp => bottom_fc p (h.part p hp))
termination_by l
decreasing_by exact Lat.sizeOf_ps ‹_›
def bottomC (l : Lat) : Val × Int := if checkX l = 0 then (bottomV l, 0) else (.zero, 1)
set_option maxRecDepth 100000 in
set_option maxHeartbeats 1000000 in
theorem Bottom_fc (l : Lat) : FC Tryz.prog 166 [.agg (latL l)] (.tup [.agg (valL (bottomC l).1), i64 (bottomC l).2]) := by
 refine fc_of_awpR [.c 2 30 4 true, .t 3] ⟨⟨inferInstance, rfl⟩, trivial⟩ Tryz.func166 rfl rfl 10 Tryz.ntmps166 (Nat.le_of_ble_eq_true rfl) ?_
 intro E hN
 refine rn10 ?_; refine zP (q_call (check_fc l) rfl rfl rfl) ?_; refine rn2 ?_
 refine zq ?_ ?_ <;> intro h6
 ·
  have h1 : ¬ checkX l = 0 := by simpa using h6
  refine rn6 ?_; refine awp_ret ?_
  change (resY _ _).bind AV.fzt = some _
  refine ret_r rfl ?_
  rw [bottomC, if_neg h1]; rfl
 have h1 : checkX l = 0 := by simpa using h6
 refine rn4 ?_; refine zP (q_call (bottom_fc l (check_ok h1)) rfl rfl rfl) ?_; refine rn3 ?_; refine awp_ret ?_
 change (resY _ _).bind AV.fzt = some _
 refine ret_r rfl ?_
 rw [bottomC, if_pos h1]
end Go.Proofs.YtaecccdkjmipeaaGreat
