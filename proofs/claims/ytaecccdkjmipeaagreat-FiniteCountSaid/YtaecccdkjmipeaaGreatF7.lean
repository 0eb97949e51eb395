/-
  Contracts: finite.products, all at products (seat r5).
  Contracts: finite.Values, Count, Index, Table at the chapter's description (seat r5).
-/
import Derived.Test.YtaecccdkjmipeaaGreatF6
import Derived.Test.YtaecccdkjmipeaaGreatB19
namespace Go.Proofs.YtaecccdkjmipeaaGreat
open Go.RowKit
set_option maxRecDepth 100000 in
set_option maxHeartbeats 1000000 in
theorem cloneVa_fo (l : List Val) (hl : l.length ≤ 1000000) : FO Tryz.prog 114 [vals l] 30 4 (l.map valC) := by
 refine fo_of_awp 2 Tryz.func114 rfl rfl 8 Tryz.ntmps114 (Nat.le_of_ble_eq_true rfl) ?_
 intro E hN
 refine rn8 ?_
 refine s_sleq hN rfl rfl rfl rfl rfl rfl rfl (fun b hbb => ?_)
 refine zN ?_
 refine zq ?_ ?_ <;> intro h2
 ·
  have hnil : l = [] := by
   rcases l with _ | ⟨x, r⟩
   ·rfl
   have := hbb (by simp); rw [this] at h2; cases h2
  subst hnil
  refine rn4 ?_; refine awp_weak (weak_own rfl 2 30 4 rfl) ?_; refine awp_ret ?_
  exact ⟨0, 0, rfl, rfl, rfl, fzs_vals []⟩
 refine rn3 ?_; refine s_bslice0 hN rfl rfl rfl rfl rfl rfl ?_; refine zM ?_
 refine s_append_own hN rfl rfl rfl rfl rfl rfl (okE_vals _) (by simp; omega) rfl rfl rfl rfl ?_
 refine zT ?_; refine awp_ret ?_
 exact ⟨0, _, rfl, by simp, rfl, fzs_vals l⟩
/-- one more part -/
def oneV (v q : Val) : Val := .mk 0 [] (v.ps ++ [q]) []
def stepV (out L : List Val) : List Val := out.flatMap fun v => L.map (oneV v)
def prodV (Ls : List (List Val)) : List Val := Ls.foldl stepV [Val.zero]
/-- the pairs done before (k, j) -/
def doneV (out L : List Val) (k j : Nat) : List Val := (out.take k).flatMap (fun v => L.map (oneV v)) ++ (match out[k]? with | some v => (L.take j).map (oneV v) | none => [])
theorem doneV_zero (out L : List Val) (k : Nat) : doneV out L k 0 = (out.take k).flatMap (fun v => L.map (oneV v)) := by
 unfold doneV
 cases out[k]? <;> simp
theorem doneV_row {out L : List Val} {k : Nat} {v : Val} {j : Nat} (hk : out[k]? = some v) (hj : L.length ≤ j) : doneV out L k j = doneV out L (k + 1) 0 := by
 rw [doneV_zero]
 unfold doneV
 rw [hk, List.take_of_length_le hj, List.take_add_one, hk, List.flatMap_append]
 simp
theorem doneV_succ {out L : List Val} {k j : Nat} {v q : Val} (hk : out[k]? = some v) (hj : L[j]? = some q) : doneV out L k (j + 1) = doneV out L k j ++ [oneV v q] := by
 unfold doneV
 rw [hk, List.take_add_one, hj]
 simp
theorem doneV_end {out L : List Val} {k : Nat} (hk : out.length ≤ k) : doneV out L k 0 = stepV out L := by
 rw [doneV_zero, List.take_of_length_le hk]; rfl
theorem rows_len (L : List Val) : ∀ l : List Val, (l.flatMap fun v => L.map (oneV v)).length = l.length * L.length
 | [] => by simp
 | v :: l => by rw [List.flatMap_cons, List.length_append, rows_len L l, List.length_map, List.length_cons, Nat.add_mul, Nat.one_mul, Nat.add_comm]
theorem doneV_len {out L : List Val} {k j : Nat} (hk : k < out.length) (hj : j ≤ L.length) : (doneV out L k j).length ≤ out.length * L.length := by
 unfold doneV
 rw [List.getElem?_eq_getElem hk, List.length_append, rows_len, List.length_map, List.length_take, List.length_take]
 have h1 : (k + 1) * L.length ≤ out.length * L.length := Nat.mul_le_mul_right _ hk
 rw [Nat.add_mul, Nat.one_mul] at h1
 have h2 : min k out.length = k := by omega
 rw [h2]
 omega
theorem stepV_len (out L : List Val) : (stepV out L).length = out.length * L.length := rows_len L out
theorem prodV_take {Ls : List (List Val)} {i : Nat} {L : List Val} (h : Ls[i]? = some L) : prodV (Ls.take (i + 1)) = stepV (prodV (Ls.take i)) L := by
 unfold prodV
 rw [List.take_add_one, h, List.foldl_append]; rfl
theorem prodV_ps : ∀ (Ls : List (List Val)) (v : Val), v ∈ prodV Ls → v.ps.length ≤ Ls.length := by
 have key : ∀ (Ls : List (List Val)) (out : List Val) (b : Nat), (∀ v ∈ out, v.ps.length ≤ b) → ∀ v ∈ Ls.foldl stepV out, v.ps.length ≤ b + Ls.length := by
  intro Ls
  induction Ls with
  | nil => intro out b h v hv; exact h v hv
  | cons L Ls ih =>
   intro out b h v hv
   have := ih (stepV out L) (b + 1) (fun x hx => by
    unfold stepV at hx
    obtain ⟨y, hy, hx⟩ := List.mem_flatMap.1 hx
    obtain ⟨q, -, rfl⟩ := List.mem_map.1 hx
    show (y.ps ++ [q]).length ≤ b + 1
    rw [List.length_append]
    have := h y hy
    simp; omega) v hv
   rw [List.length_cons]; omega
 intro Ls v hv
 have := key Ls [Val.zero] 0 (fun v hv => by simp at hv; subst hv; exact Nat.le_refl _) v hv
 omega
theorem wrap_small {x : Int} (h : 0 ≤ x) (h2 : x ≤ 4611686018427387904) : IntKind.i64.wrap x = x := IntWalk.i64_in _ (by omega)
theorem small_mul {a b : Nat} (h : a * b ≤ 256) : decide (IntKind.i64.wrap ((a : Int) * (b : Int)) > 256) = false := by
 rw [← Int.natCast_mul, IntWalk.i64_in _ (by omega)]
 simp; omega
theorem done_cells (v q : Val) : chunkA 4 1 [i64 0, .sl [] none, .sl (v.ps.map valC ++ chunkA 4 1 (valL q)) none, .sl [] none] = [valC (oneV v q)] := by
 rw [valC_eq]
 show [[i64 0, AV.sl [] none, AV.sl (v.ps.map valC ++ [valL q]) none, AV.sl [] none]] = [[i64 0, svs [], AV.sl ((v.ps ++ [q]).map valC) none, ens []]]
 rw [List.map_append, List.map_cons, valC_eq q]; rfl
theorem start_v : some (AV.sl (chunkA 4 1 [i64 0, .sl [] none, .sl [] none, .sl [] none]) none) = some (vals (prodV [])) := by
 show some (AV.sl [valL Val.zero] none) = some (AV.sl [valC Val.zero] none)
 rw [valC_eq]
theorem okE_app {k : Nat} {a b : List (List AV)} (ha : a.all (okE k) = true) (hb : b.all (okE k) = true) : (a ++ b).all (okE k) = true := by rw [List.all_append, ha, hb]; rfl
theorem fz_app {a b : List (List AV)} (ha : ∀ e ∈ a, fzs e = some e) (hb : ∀ e ∈ b, fzs e = some e) : ∀ e ∈ a ++ b, fzs e = some e := fun e he => by
 rcases List.mem_append.1 he with h | h
 ·exact ha e h
 exact hb e h
theorem cgVv {l l' : List Val} (h : l = l') : some (vals l) = some (vals l') := by rw [h]
set_option maxRecDepth 100000 in
set_option maxHeartbeats 1000000 in
theorem products_gx (parts : List Lat) (Ls : List (List Val)) (h0 : 0 < parts.length) (hl : Ls.length = parts.length) (hA : ∀ (i : Nat) (p : Lat) (L : List Val), parts[i]? = some p → Ls[i]? = some L → GV 48 [.agg (latL p)] L 0 1) (h256 : ∀ i, i ≤ Ls.length → (prodV (Ls.take i)).length ≤ 256) (hL : ∀ L ∈ Ls, L.length ≤ 256) (h64 : parts.length ≤ 64) : GV 78 [.sl (parts.map latC) none] (prodV Ls) 2 3 := by
 refine gx_of_awp [2, 3] Tryz.func78 rfl rfl 64 Tryz.ntmps78 (Nat.le_of_ble_eq_true rfl) ?_
 intro E hN
 refine rn8 ?_; refine zP (q_bslice rfl rfl rfl rfl (by exact rfl) (by decide) (by decide)) ?_; refine rn10 ?_
 refine awp_loop (fun x : {i : Nat // i < parts.length} ⊕ Unit => match x with | .inl x => ⟨[(16, .sl (parts.map latC) none), (17, i64 parts.length), (18, i64 (x.1 : Nat)), (4, vals (prodV (Ls.take x.1)))], [], 0⟩ | .inr _ => ⟨[(16, .sl (parts.map latC) none), (17, i64 parts.length), (18, i64 parts.length), (4, .own 2 (prodV Ls).length)], [(2, .arr 30 4 ((prodV Ls).map valC))], 3⟩) (fun x => match x with | .inl x => parts.length - x.1 | .inr _ => 0) (Sum.inl ⟨0, h0⟩) ?_ ?_
 ·
  exact weak_scrub' rfl (zz1 ⟨(cgI (by simp)), rfl, rfl, rfl, start_v, rfl, trivial⟩) trivial
 rintro (⟨i, hi⟩ | ⟨⟩)
 ·
  skip
  refine rn5 ?_
  refine zq ?_ ?_ <;> intro h9
  ·
   obtain ⟨pl, hip⟩ := get_lt hi
   obtain ⟨L, hiL⟩ := get_lt (show i < Ls.length by omega)
   have hLl := hL L (List.mem_of_getElem? hiL)
   have h2i := h256 i (by omega)
   refine rn5 ?_; refine zP (q_elem rfl rfl rfl i rfl _ (lat_get hip) rfl) ?_; refine rn7 ?_
   refine s_xcall hN [] (hA i pl L hip hiL) (.fn _ _ _ _ rfl rfl) rfl rfl rfl trivial rfl ⟨in_fz (fzs_vals _), trivial⟩ rfl (Hn := [(1, .arr 30 4 (L.map valC))]) (ren_arr (fzs_vals _)) rfl rfl rfl rfl rfl rfl ?_
   refine rn8 ?_; refine awp_weak (weak_frow 7 1 rfl rfl (by simp) (okE_vals _) (fzs_vals _) rfl) ?_; refine rn9 ?_
   refine zP (q_binb (b := false) rfl rfl rfl (congrArg Value.bool (small_mul (a := ((prodV (Ls.take i)).map valC).length) (b := (L.map valC).length) (by simp only [List.length_map]; have := h256 (i + 1) (by omega); rw [prodV_take hiL, stepV_len] at this; exact this)))) ?_
   refine zh0 rfl ?_; refine zN ?_; refine c_false rfl rfl ?_; refine rn13 ?_; refine awp_weak (weak_own rfl 9 30 4 rfl) ?_
   refine awp_loop (fun x : {k : Nat // k ≤ (prodV (Ls.take i)).length ∧ True} => ⟨[(16, .sl (parts.map latC) none), (17, i64 parts.length), (18, i64 (i : Nat)), (7, vals L), (37, vals (prodV (Ls.take i))), (38, i64 (prodV (Ls.take i)).length), (39, i64 (x.1 : Nat)), (9, .own 2 (doneV (prodV (Ls.take i)) L x.1 0).length)], [(2, .arr 30 4 ((doneV (prodV (Ls.take i)) L x.1 0).map valC))], 3⟩) (fun x => (prodV (Ls.take i)).length - x.1) (⟨0, Nat.zero_le _, by trivial⟩) ?_ ?_
   ·
    exact weak_scrub' rfl (zz4 (zz1 ⟨(cgI (by simp)), rfl, rfl, rfl, (cgO (by rw [doneV_zero]; rfl)), rfl, trivial⟩)) ⟨(cgA (by rw [doneV_zero]; rfl)), rfl, (ok_vals _), trivial⟩
   rintro ⟨k, hk, gk⟩
   dsimp only
   refine rn5 ?_
   refine zq ?_ ?_ <;> intro h30
   ·
    have ltk : k < (prodV (Ls.take i)).length := by simpa using h30
    obtain ⟨v, hkv⟩ := get_lt ltk
    have hvp := prodV_ps _ v (List.mem_of_getElem? hkv)
    rw [List.length_take] at hvp
    refine rn5 ?_; refine zP (q_elem rfl rfl rfl k rfl _ (val_get hkv) rfl) ?_; refine rn11 ?_
    refine awp_loop (fun x : {j : Nat // j ≤ L.length ∧ True} => ⟨[(16, .sl (parts.map latC) none), (17, i64 parts.length), (18, i64 (i : Nat)), (7, vals L), (37, vals (prodV (Ls.take i))), (38, i64 (prodV (Ls.take i)).length), (39, i64 (k : Nat)), (9, .own 2 (doneV (prodV (Ls.take i)) L k x.1).length), (11, .ptr 3 0), (43, vals L), (44, i64 L.length), (45, i64 (x.1 : Nat))], [(2, .arr 30 4 ((doneV (prodV (Ls.take i)) L k x.1).map valC)), (3, .var 30 (valL v))], 4⟩) (fun x => L.length - x.1) (⟨0, Nat.zero_le _, by trivial⟩) ?_ ?_
    ·
     exact weak_scrub' rfl (zz4 (zz4 (zz2 ⟨(cgI (by simp)), rfl, (zz1 trivial)⟩))) ⟨rfl, rfl, (ok_vals _), rfl, rfl, rfl, trivial⟩
    rintro ⟨j, hj, gj⟩
    dsimp only
    refine rn5 ?_
    refine zq ?_ ?_ <;> intro h48
    ·
     have ltj : j < L.length := by simpa using h48
     obtain ⟨q, hjq⟩ := get_lt ltj
     refine rn5 ?_; refine zP (q_elem rfl rfl rfl j rfl _ (val_get hjq) rfl) ?_; refine rn4 ?_
     refine awp_takeN 11 rfl (by kernel_rfl) (by kernel_rfl) (fun _ _ h => h) ?_; refine yM 0 ?_
     refine au_take 1 rfl (by kernel_rfl) (by kernel_rfl) rfl (wi_fieldAddr hN rfl rfl rfl rfl rfl rfl rfl rfl) ?_
     refine au_all [2, 4] (by kernel_rfl) rfl ⟨.inl (ao_py rfl ?_), .inl (ao_py rfl ?_), trivial⟩
     ·
      refine zl ?_
      change AU _ _ _ _ _ _ _ _
      refine au_all [3, 4] (by kernel_rfl) rfl ⟨.inr (.inr (nw_ocall hN rfl rfl (cloneVa_fo v.ps (by omega)) (.fn _ _ _ _ rfl rfl) rfl rfl rfl rfl rfl ?_)), .inl (ao_py rfl ?_), trivial⟩
      ·
       change AU _ _ _ _ _ _ _ _
       refine yL 4 ?_; refine yP 5 rfl (q_bslice rfl rfl rfl rfl (by exact rfl) (by decide) (by decide)) ?_
       refine au_all [6] (by kernel_rfl) rfl ⟨.inr (.inr (nw_append_own hN rfl rfl rfl rfl (by simp) rfl rfl (by rfl) (by simp [chunkA]; omega) rfl rfl rfl rfl ?_)), trivial⟩
       change AU _ _ _ _ _ _ _ _
       refine au_all [7] (by kernel_rfl) rfl ⟨.inr (.inr (nw_weak hN rfl rfl rfl rfl rfl (weak_frow 55 5 rfl rfl (by simp) (okE_app (okE_vals _) (by rfl)) (fz_app (fzs_vals _) (by intro e he; simp [chunkA] at he; subst he; rfl)) rfl) (q_build rfl rfl rfl) ?_)), trivial⟩
       change AU _ _ _ _ _ _ _ _
       refine yP 8 rfl (q_bslice rfl rfl rfl rfl (by exact rfl) (by decide) (by decide)) ?_
       refine au_all [9] (by kernel_rfl) rfl ⟨.inr (.inr (nw_append_own hN rfl rfl rfl rfl (by simp) rfl rfl (by rfl) (by have := doneV_len (L := L) ltk (show j ≤ L.length by omega); have := Nat.mul_le_mul h2i hLl; simp [chunkA]; omega) rfl rfl rfl rfl ?_)), trivial⟩
       change AU _ _ _ _ _ _ _ _
       refine yA 10 ?_; refine yD ?_; change AWP _ _ _ _  _; refine rn1 ?_; refine zP (q_addi rfl rfl rfl (by omega)) ?_; refine zM ?_
       refine aops_nil ?_
       exact ⟨⟨j + 1, ltj, trivial⟩, weak_scrub' rfl (zz4 (zz3 ⟨(cgO (by rw [doneV_succ hkv hjq]; simp [chunkA])), rfl, (zz3 ⟨(cgI (by dsimp only; omega)), rfl, trivial⟩)⟩)) ⟨(cgA (by rw [doneV_succ hkv hjq, List.map_append, List.map_cons, List.map_nil, ← done_cells])), rfl, (ok_vals _), rfl, rfl, rfl, trivial⟩, by dsimp only; omega⟩
      refine zl ?_
      change AU _ _ _ _ _ _ _ _
      refine au_all [3, 5] (by kernel_rfl) rfl ⟨.inr (.inr (nw_ocall hN rfl rfl (cloneVa_fo v.ps (by omega)) (.fn _ _ _ _ rfl rfl) rfl rfl rfl rfl rfl ?_)), .inl (ao_py rfl ?_), trivial⟩
      ·
       change AU _ _ _ _ _ _ _ _
       refine yP 5 rfl (q_bslice rfl rfl rfl rfl (by exact rfl) (by decide) (by decide)) ?_
       refine au_all [6] (by kernel_rfl) rfl ⟨.inr (.inr (nw_append_own hN rfl rfl rfl rfl (by simp) rfl rfl (by rfl) (by simp [chunkA]; omega) rfl rfl rfl rfl ?_)), trivial⟩
       change AU _ _ _ _ _ _ _ _
       refine au_all [7] (by kernel_rfl) rfl ⟨.inr (.inr (nw_weak hN rfl rfl rfl rfl rfl (weak_frow 55 5 rfl rfl (by simp) (okE_app (okE_vals _) (by rfl)) (fz_app (fzs_vals _) (by intro e he; simp [chunkA] at he; subst he; rfl)) rfl) (q_build rfl rfl rfl) ?_)), trivial⟩
       change AU _ _ _ _ _ _ _ _
       refine yP 8 rfl (q_bslice rfl rfl rfl rfl (by exact rfl) (by decide) (by decide)) ?_
       refine au_all [9] (by kernel_rfl) rfl ⟨.inr (.inr (nw_append_own hN rfl rfl rfl rfl (by simp) rfl rfl (by rfl) (by have := doneV_len (L := L) ltk (show j ≤ L.length by omega); have := Nat.mul_le_mul h2i hLl; simp [chunkA]; omega) rfl rfl rfl rfl ?_)), trivial⟩
       change AU _ _ _ _ _ _ _ _
       refine yA 10 ?_; refine yD ?_; change AWP _ _ _ _  _; refine rn1 ?_; refine zP (q_addi rfl rfl rfl (by omega)) ?_; refine zM ?_
       refine aops_nil ?_
       exact ⟨⟨j + 1, ltj, trivial⟩, weak_scrub' rfl (zz4 (zz3 ⟨(cgO (by rw [doneV_succ hkv hjq]; simp [chunkA])), rfl, (zz3 ⟨(cgI (by dsimp only; omega)), rfl, trivial⟩)⟩)) ⟨(cgA (by rw [doneV_succ hkv hjq, List.map_append, List.map_cons, List.map_nil, ← done_cells])), rfl, (ok_vals _), rfl, rfl, rfl, trivial⟩, by dsimp only; omega⟩
      refine zp (q_bslice rfl rfl rfl rfl (by exact rfl) (by decide) (by decide)) ?_
      change AU _ _ _ _ _ _ _ _
      refine au_all [3] (by kernel_rfl) rfl ⟨.inr (.inr (nw_ocall hN rfl rfl (cloneVa_fo v.ps (by omega)) (.fn _ _ _ _ rfl rfl) rfl rfl rfl rfl rfl ?_)), trivial⟩
      change AU _ _ _ _ _ _ _ _
      refine au_all [6] (by kernel_rfl) rfl ⟨.inr (.inr (nw_append_own hN rfl rfl rfl rfl (by simp) rfl rfl (by rfl) (by simp [chunkA]; omega) rfl rfl rfl rfl ?_)), trivial⟩
      change AU _ _ _ _ _ _ _ _
      refine au_all [7] (by kernel_rfl) rfl ⟨.inr (.inr (nw_weak hN rfl rfl rfl rfl rfl (weak_frow 55 5 rfl rfl (by simp) (okE_app (okE_vals _) (by rfl)) (fz_app (fzs_vals _) (by intro e he; simp [chunkA] at he; subst he; rfl)) rfl) (q_build rfl rfl rfl) ?_)), trivial⟩
      change AU _ _ _ _ _ _ _ _
      refine yP 8 rfl (q_bslice rfl rfl rfl rfl (by exact rfl) (by decide) (by decide)) ?_
      refine au_all [9] (by kernel_rfl) rfl ⟨.inr (.inr (nw_append_own hN rfl rfl rfl rfl (by simp) rfl rfl (by rfl) (by have := doneV_len (L := L) ltk (show j ≤ L.length by omega); have := Nat.mul_le_mul h2i hLl; simp [chunkA]; omega) rfl rfl rfl rfl ?_)), trivial⟩
      change AU _ _ _ _ _ _ _ _
      refine yA 10 ?_; refine yD ?_; change AWP _ _ _ _  _; refine rn1 ?_; refine zP (q_addi rfl rfl rfl (by omega)) ?_; refine zM ?_
      refine aops_nil ?_
      exact ⟨⟨j + 1, ltj, trivial⟩, weak_scrub' rfl (zz4 (zz3 ⟨(cgO (by rw [doneV_succ hkv hjq]; simp [chunkA])), rfl, (zz3 ⟨(cgI (by dsimp only; omega)), rfl, trivial⟩)⟩)) ⟨(cgA (by rw [doneV_succ hkv hjq, List.map_append, List.map_cons, List.map_nil, ← done_cells])), rfl, (ok_vals _), rfl, rfl, rfl, trivial⟩, by dsimp only; omega⟩
     refine zl ?_
     change AU _ _ _ _ _ _ _ _
     refine au_all [2, 5] (by kernel_rfl) rfl ⟨.inl (ao_py rfl ?_), .inl (ao_py rfl ?_), trivial⟩
     ·
      refine zl ?_
      change AU _ _ _ _ _ _ _ _
      refine au_all [3, 5] (by kernel_rfl) rfl ⟨.inr (.inr (nw_ocall hN rfl rfl (cloneVa_fo v.ps (by omega)) (.fn _ _ _ _ rfl rfl) rfl rfl rfl rfl rfl ?_)), .inl (ao_py rfl ?_), trivial⟩
      ·
       change AU _ _ _ _ _ _ _ _
       refine yP 5 rfl (q_bslice rfl rfl rfl rfl (by exact rfl) (by decide) (by decide)) ?_
       refine au_all [6] (by kernel_rfl) rfl ⟨.inr (.inr (nw_append_own hN rfl rfl rfl rfl (by simp) rfl rfl (by rfl) (by simp [chunkA]; omega) rfl rfl rfl rfl ?_)), trivial⟩
       change AU _ _ _ _ _ _ _ _
       refine au_all [7] (by kernel_rfl) rfl ⟨.inr (.inr (nw_weak hN rfl rfl rfl rfl rfl (weak_frow 55 5 rfl rfl (by simp) (okE_app (okE_vals _) (by rfl)) (fz_app (fzs_vals _) (by intro e he; simp [chunkA] at he; subst he; rfl)) rfl) (q_build rfl rfl rfl) ?_)), trivial⟩
       change AU _ _ _ _ _ _ _ _
       refine yP 8 rfl (q_bslice rfl rfl rfl rfl (by exact rfl) (by decide) (by decide)) ?_
       refine au_all [9] (by kernel_rfl) rfl ⟨.inr (.inr (nw_append_own hN rfl rfl rfl rfl (by simp) rfl rfl (by rfl) (by have := doneV_len (L := L) ltk (show j ≤ L.length by omega); have := Nat.mul_le_mul h2i hLl; simp [chunkA]; omega) rfl rfl rfl rfl ?_)), trivial⟩
       change AU _ _ _ _ _ _ _ _
       refine yA 10 ?_; refine yD ?_; change AWP _ _ _ _  _; refine rn1 ?_; refine zP (q_addi rfl rfl rfl (by omega)) ?_; refine zM ?_
       refine aops_nil ?_
       exact ⟨⟨j + 1, ltj, trivial⟩, weak_scrub' rfl (zz4 (zz3 ⟨(cgO (by rw [doneV_succ hkv hjq]; simp [chunkA])), rfl, (zz3 ⟨(cgI (by dsimp only; omega)), rfl, trivial⟩)⟩)) ⟨(cgA (by rw [doneV_succ hkv hjq, List.map_append, List.map_cons, List.map_nil, ← done_cells])), rfl, (ok_vals _), rfl, rfl, rfl, trivial⟩, by dsimp only; omega⟩
      refine zp (q_bslice rfl rfl rfl rfl (by exact rfl) (by decide) (by decide)) ?_
      change AU _ _ _ _ _ _ _ _
      refine au_all [3] (by kernel_rfl) rfl ⟨.inr (.inr (nw_ocall hN rfl rfl (cloneVa_fo v.ps (by omega)) (.fn _ _ _ _ rfl rfl) rfl rfl rfl rfl rfl ?_)), trivial⟩
      change AU _ _ _ _ _ _ _ _
      refine au_all [6] (by kernel_rfl) rfl ⟨.inr (.inr (nw_append_own hN rfl rfl rfl rfl (by simp) rfl rfl (by rfl) (by simp [chunkA]; omega) rfl rfl rfl rfl ?_)), trivial⟩
      change AU _ _ _ _ _ _ _ _
      refine au_all [7] (by kernel_rfl) rfl ⟨.inr (.inr (nw_weak hN rfl rfl rfl rfl rfl (weak_frow 55 5 rfl rfl (by simp) (okE_app (okE_vals _) (by rfl)) (fz_app (fzs_vals _) (by intro e he; simp [chunkA] at he; subst he; rfl)) rfl) (q_build rfl rfl rfl) ?_)), trivial⟩
      change AU _ _ _ _ _ _ _ _
      refine yP 8 rfl (q_bslice rfl rfl rfl rfl (by exact rfl) (by decide) (by decide)) ?_
      refine au_all [9] (by kernel_rfl) rfl ⟨.inr (.inr (nw_append_own hN rfl rfl rfl rfl (by simp) rfl rfl (by rfl) (by have := doneV_len (L := L) ltk (show j ≤ L.length by omega); have := Nat.mul_le_mul h2i hLl; simp [chunkA]; omega) rfl rfl rfl rfl ?_)), trivial⟩
      change AU _ _ _ _ _ _ _ _
      refine yA 10 ?_; refine yD ?_; change AWP _ _ _ _  _; refine rn1 ?_; refine zP (q_addi rfl rfl rfl (by omega)) ?_; refine zM ?_
      refine aops_nil ?_
      exact ⟨⟨j + 1, ltj, trivial⟩, weak_scrub' rfl (zz4 (zz3 ⟨(cgO (by rw [doneV_succ hkv hjq]; simp [chunkA])), rfl, (zz3 ⟨(cgI (by dsimp only; omega)), rfl, trivial⟩)⟩)) ⟨(cgA (by rw [doneV_succ hkv hjq, List.map_append, List.map_cons, List.map_nil, ← done_cells])), rfl, (ok_vals _), rfl, rfl, rfl, trivial⟩, by dsimp only; omega⟩
     refine zp (q_bslice rfl rfl rfl rfl (by exact rfl) (by decide) (by decide)) ?_
     change AU _ _ _ _ _ _ _ _
     refine yL 2 ?_
     refine au_all [3] (by kernel_rfl) rfl ⟨.inr (.inr (nw_ocall hN rfl rfl (cloneVa_fo v.ps (by omega)) (.fn _ _ _ _ rfl rfl) rfl rfl rfl rfl rfl ?_)), trivial⟩
     change AU _ _ _ _ _ _ _ _
     refine au_all [6] (by kernel_rfl) rfl ⟨.inr (.inr (nw_append_own hN rfl rfl rfl rfl (by simp) rfl rfl (by rfl) (by simp [chunkA]; omega) rfl rfl rfl rfl ?_)), trivial⟩
     change AU _ _ _ _ _ _ _ _
     refine au_all [7] (by kernel_rfl) rfl ⟨.inr (.inr (nw_weak hN rfl rfl rfl rfl rfl (weak_frow 55 5 rfl rfl (by simp) (okE_app (okE_vals _) (by rfl)) (fz_app (fzs_vals _) (by intro e he; simp [chunkA] at he; subst he; rfl)) rfl) (q_build rfl rfl rfl) ?_)), trivial⟩
     change AU _ _ _ _ _ _ _ _
     refine yP 8 rfl (q_bslice rfl rfl rfl rfl (by exact rfl) (by decide) (by decide)) ?_
     refine au_all [9] (by kernel_rfl) rfl ⟨.inr (.inr (nw_append_own hN rfl rfl rfl rfl (by simp) rfl rfl (by rfl) (by have := doneV_len (L := L) ltk (show j ≤ L.length by omega); have := Nat.mul_le_mul h2i hLl; simp [chunkA]; omega) rfl rfl rfl rfl ?_)), trivial⟩
     change AU _ _ _ _ _ _ _ _
     refine yA 10 ?_; refine yD ?_; change AWP _ _ _ _  _; refine rn1 ?_; refine zP (q_addi rfl rfl rfl (by omega)) ?_; refine zM ?_
     refine aops_nil ?_
     exact ⟨⟨j + 1, ltj, trivial⟩, weak_scrub' rfl (zz4 (zz3 ⟨(cgO (by rw [doneV_succ hkv hjq]; simp [chunkA])), rfl, (zz3 ⟨(cgI (by dsimp only; omega)), rfl, trivial⟩)⟩)) ⟨(cgA (by rw [doneV_succ hkv hjq, List.map_append, List.map_cons, List.map_nil, ← done_cells])), rfl, (ok_vals _), rfl, rfl, rfl, trivial⟩, by dsimp only; omega⟩
    have gej : L.length ≤ j := by simpa using h48
    refine rn2 ?_; refine zP (q_addi rfl rfl rfl (by omega)) ?_; refine zM ?_; refine aops_nil ?_
    exact ⟨⟨k + 1, ltk, trivial⟩, weak_scrub' rfl (zz4 (zz2 ⟨(cgI (by dsimp only; omega)), rfl, (cgO (by rw [doneV_row hkv gej])), rfl, trivial⟩)) ⟨(cgA (by rw [doneV_row hkv gej])), rfl, (ok_vals _), trivial⟩, by dsimp only; omega⟩
   have gek : (prodV (Ls.take i)).length ≤ k := by simpa using h30
   refine rn6 ?_; refine zP (q_addi rfl rfl rfl (by omega)) ?_; refine zM ?_; refine aops_nil ?_
   by_cases hlast : i + 1 < parts.length
   ·exact ⟨.inl ⟨i + 1, hlast⟩, Weak.trans (weak_frow 4 2 rfl rfl (by simp) (okE_vals _) (fzs_vals _) rfl) (weak_scrub' rfl (zz2 ⟨(cgI (by dsimp only; omega)), rfl, (cgVv (by rw [doneV_end gek, prodV_take hiL])), rfl, trivial⟩) trivial), by dsimp only; omega⟩
   have hpe : doneV (prodV (Ls.take i)) L k 0 = prodV Ls := by
    rw [doneV_end gek, ← prodV_take hiL, List.take_of_length_le (by omega)]
   exact ⟨.inr (), weak_scrub' rfl (zz2 ⟨(cgI (by omega)), rfl, (cgO (by rw [hpe])), rfl, trivial⟩) ⟨(cgA (by rw [hpe])), rfl, (ok_vals _), trivial⟩, by show 0 < parts.length - i; omega⟩
  exfalso; simp at h9; omega
 skip
 refine rn5 ?_
 refine zq ?_ ?_ <;> intro h111
 ·
  exfalso; simp at h111
 refine rn7 ?_; refine awp_ret ?_
 change (resX _ _).ntt = _ ∧ _
 refine ret_x rfl ?_ rfl rfl rfl ⟨rfl, rfl, ok_vals _, trivial⟩
 rfl
end Go.Proofs.YtaecccdkjmipeaaGreat

namespace Go.Proofs.YtaecccdkjmipeaaGreat
open Go.RowKit
def dMax : Lat := .mk 2 0 1 [] [] []
def dFlag : Lat := .mk 1 0 0 [] [] []
def dl : Lat := .mk 6 0 0 [[97], [98]] [dMax, dFlag] []
def dv : List Val := prodV [numsV 0 2, numsV 0 2]
theorem allMax_gv : GV 48 [.agg (latL dMax)] (numsV 0 2) 0 1 := gv_norm (allMax_gx 0 1 2 rfl (by decide) (by decide) (by decide))
theorem allFlag_gv : GV 48 [.agg (latL dFlag)] (numsV 0 2) 0 1 := gv_norm allFlag_gx
theorem prod_gv : GV 78 [.sl ([dMax, dFlag].map latC) none] dv 0 1 := gv_norm (products_gx [dMax, dFlag] [numsV 0 2, numsV 0 2] (by decide) rfl (fun i q L hq hL => by
 match i, hq, hL with
 | 0, hq, hL => cases hq; cases hL; exact allMax_gv
 | 1, hq, hL => cases hq; cases hL; exact allFlag_gv
 | i + 2, hq, _ => simp at hq) (fun i hi => by
 match i, hi with
 | 0, _ => decide
 | 1, _ => decide
 | 2, _ => decide
 | i + 3, hi => simp at hi) (fun L hL => by simp at hL; subst hL; decide) (by decide))
set_option maxRecDepth 100000 in
set_option maxHeartbeats 1000000 in
theorem allProd_gx : GV 48 [.agg (latL dl)] dv 1 2 := by
 refine gx_of_awp [2, 3] Tryz.func48 rfl rfl 91 Tryz.ntmps48 (Nat.le_of_ble_eq_true rfl) ?_
 intro E hN
 refine rn18 ?_; refine c_false rfl rfl ?_; refine rn6 ?_; refine c_false rfl rfl ?_; refine rn4 ?_; refine c_false rfl rfl ?_; refine rn5 ?_
 refine c_false rfl rfl ?_; refine rn5 ?_; refine c_false rfl rfl ?_; refine rn5 ?_; refine c_false rfl rfl ?_; refine rn5 ?_
 refine c_false rfl rfl ?_; refine rn5 ?_
 refine s_xcall hN [] prod_gv (.fn _ _ _ _ rfl rfl) rfl rfl rfl trivial rfl ⟨in_fz (fzs_vals _), trivial⟩ rfl (Hn := [(1, .arr 30 4 (dv.map valC))]) (ren_arr (fzs_vals _)) rfl rfl rfl rfl rfl rfl ?_
 refine rn5 ?_; refine awp_ret ?_
 change (resX _ _).ntt = _ ∧ _
 refine ret_x rfl ?_ rfl rfl rfl ⟨rfl, rfl, ok_vals _, trivial⟩
 rfl
theorem allProd_gv : GV 48 [.agg (latL dl)] dv 0 1 := gv_norm allProd_gx
set_option maxRecDepth 100000 in
set_option maxHeartbeats 1000000 in
theorem finMax_fc : FC Tryz.prog 47 [.agg (latL dMax)] (bl true) := by
 refine fc_of_awp [2] Tryz.func47 rfl rfl 28 Tryz.ntmps47 (Nat.le_of_ble_eq_true rfl) ?_
 intro E hN
 refine rn17 ?_; refine c_false rfl rfl ?_; refine rn6 ?_; refine c_false rfl rfl ?_; refine rn5 ?_; refine c_false rfl rfl ?_; refine rn4 ?_
 refine c_false rfl rfl ?_; refine rn10 ?_
 refine awp_loop (fun _ : Unit => ⟨[(18, .sl [] none), (19, i64 0), (20, i64 0)], [], 0⟩) (fun _ => 0) (()) ?_ ?_
 ·
  exact weak_scrub' rfl (zz3 trivial) trivial
 intro _
 refine rn5 ?_; refine c_false rfl rfl ?_; refine rn4 ?_; refine zQ ?_
 rfl
set_option maxRecDepth 100000 in
set_option maxHeartbeats 1000000 in
theorem finFlag_fc : FC Tryz.prog 47 [.agg (latL dFlag)] (bl true) := by
 refine fc_of_awp [2] Tryz.func47 rfl rfl 28 Tryz.ntmps47 (Nat.le_of_ble_eq_true rfl) ?_
 intro E hN
 refine rn17 ?_; refine c_false rfl rfl ?_; refine rn6 ?_; refine c_false rfl rfl ?_; refine rn5 ?_; refine c_false rfl rfl ?_; refine rn4 ?_
 refine c_false rfl rfl ?_; refine rn10 ?_
 refine awp_loop (fun _ : Unit => ⟨[(18, .sl [] none), (19, i64 0), (20, i64 0)], [], 0⟩) (fun _ => 0) (()) ?_ ?_
 ·
  exact weak_scrub' rfl (zz3 trivial) trivial
 intro _
 refine rn5 ?_; refine c_false rfl rfl ?_; refine rn4 ?_; refine zQ ?_
 rfl
set_option maxRecDepth 100000 in
set_option maxHeartbeats 1000000 in
theorem finDl_fc : FC Tryz.prog 47 [.agg (latL dl)] (bl true) := by
 refine fc_of_awp [2] Tryz.func47 rfl rfl 28 Tryz.ntmps47 (Nat.le_of_ble_eq_true rfl) ?_
 intro E hN
 have hfin : ∀ q ∈ [dMax, dFlag], FC Tryz.prog 47 [.agg (latL q)] (bl true) := fun q hq => by
  simp at hq
  rcases hq with rfl | rfl
  ·exact finMax_fc
  exact finFlag_fc
 refine rn17 ?_; refine c_false rfl rfl ?_; refine rn6 ?_; refine c_false rfl rfl ?_; refine rn5 ?_; refine c_false rfl rfl ?_; refine rn4 ?_
 refine c_false rfl rfl ?_; refine rn10 ?_
 refine awp_loop (fun x : {k : Nat // k ≤ ([dMax, dFlag]).length ∧ True} => ⟨[(18, .sl ([dMax, dFlag].map latC) none), (19, i64 2), (20, i64 (x.1 : Nat))], [], 1⟩) (fun x => ([dMax, dFlag]).length - x.1) (⟨0, Nat.zero_le _, by simp⟩) ?_ ?_
 ·
  exact weak_scrub' rfl (zz3 trivial) trivial
 rintro ⟨k, hk, hg⟩
 dsimp only
 refine rn5 ?_
 refine zq ?_ ?_ <;> intro h15
 ·
  have hlt : k < [dMax, dFlag].length := by have := of_decide_eq_true h15; show k < 2; omega
  have hlt2 : k < 2 := hlt
  obtain ⟨x, hx⟩ := get_lt hlt
  refine rn5 ?_; refine zP (q_elem rfl rfl rfl k rfl _ (lat_get hx) rfl) ?_; refine rn7 ?_
  refine zP (q_call (fcb (c := true) (hfin x (List.mem_of_getElem? hx)) rfl) rfl rfl rfl) ?_; refine rn2 ?_; refine c_false rfl rfl ?_; refine rn2 ?_
  refine zP (q_addi rfl rfl rfl (by omega)) ?_; refine zM ?_; refine aops_nil ?_
  exact ⟨⟨k + 1, hlt, trivial⟩, weak_scrub' rfl (zz2 ⟨(cgI (by dsimp only; omega)), rfl, trivial⟩) trivial, by dsimp only; omega⟩
 skip
 refine rn4 ?_; refine zQ ?_
 rfl
theorem valsort {l l2 : List Val} (hp : l2.Perm l) (h1 : l2.Pairwise (fun x y => 0 ≤ cmpVal y x)) (h2 : l.Pairwise (fun x y => 0 ≤ cmpVal y x)) : l2 = l :=
 hp.eq_of_pairwise (fun a b _ _ e1 e2 => by
  have := cmpVal_ok.anti a b
  have := cmpVal_ok.anti b a
  exact cmpVal_ok.eq _ _ (by omega)) h1 h2
theorem dv_sorted : dv.Pairwise (fun x y => 0 ≤ cmpVal y x) := by decide
theorem dv_strict : dv.Pairwise (fun x y => cmpVal x y < 0) := by decide
theorem dl_ok : checkX dl = 0 := by decide
theorem cmpValC_fc (x y : Val) : FC Tryz.prog 50 [.agg (valC x), .agg (valC y)] (i64 (cmpVal x y)) := by rw [valC_eq, valC_eq]; exact cmpVal_fc x y
set_option maxRecDepth 100000 in
set_option maxHeartbeats 1000000 in
theorem values_fc : FC Tryz.prog 14 [.agg (latL dl)] (.tup [vals dv, i64 0]) := by
 refine fc_of_awp [2, 3] Tryz.func14 rfl rfl 22 Tryz.ntmps14 (Nat.le_of_ble_eq_true rfl) ?_
 intro E hN
 refine rn10 ?_
 refine zP (q_call (by have h := check_fc dl; rw [dl_ok] at h; exact h) rfl rfl rfl) ?_
 refine rn2 ?_; refine c_false rfl rfl ?_; refine rn5 ?_; refine zP (q_call finDl_fc rfl rfl rfl) ?_; refine rn2 ?_; refine c_false rfl rfl ?_
 refine rn4 ?_
 refine s_xcall hN [] allProd_gv (.fn _ _ _ _ rfl rfl) rfl rfl rfl trivial rfl ⟨in_fz (fzs_vals _), trivial⟩ rfl (Hn := [(1, .arr 30 4 (dv.map valC))]) (ren_arr (fzs_vals _)) rfl rfl rfl rfl rfl rfl ?_
 refine rn12 ?_; refine c_false rfl rfl ?_; refine rn4 ?_
 refine s_sort (sf := 49) hN shc_sortVa rfl (by decide) valC dv cmpVal (fun g => cmpVal_ok.swo g) (fun v => by rw [valC_eq]; rfl) (fun v => by rw [valC_eq]; rfl) Tryz.isAgg30 Tryz.sizeOf30 (fun x _ y _ => cmpValC_fc x y) rfl rfl rfl rfl (by decide) rfl rfl rfl rfl (fun l2 hp hs2 => ?_)
 obtain rfl : l2 = dv := valsort hp hs2 dv_sorted
 refine rn2 ?_; refine awp_weak (weak_frow 4 1 rfl rfl (by simp) (okE_vals _) (fzs_vals _) rfl) ?_; refine rn4 ?_; refine zQ ?_
 rfl
set_option maxRecDepth 100000 in
set_option maxHeartbeats 1000000 in
theorem count_fc : FC Tryz.prog 13 [.agg (latL dl)] (.tup [i64 4, i64 0]) := by
 refine fc_of_awp [2, 3] Tryz.func13 rfl rfl 14 Tryz.ntmps13 (Nat.le_of_ble_eq_true rfl) ?_
 intro E hN
 refine rn9 ?_; refine zP (q_call values_fc rfl rfl rfl) ?_; refine rn13 ?_; refine zQ ?_
 rfl
theorem bs_lt {l : List Val} {k h : Nat} {v x : Val} (hs : l.Pairwise (fun x y => cmpVal x y < 0)) (hk : l[k]? = some v) (hx : l[h]? = some x) (hc : cmpVal x v < 0) : h < k := by
 obtain ⟨k1, rfl⟩ := List.getElem?_eq_some_iff.1 hk
 obtain ⟨h1, rfl⟩ := List.getElem?_eq_some_iff.1 hx
 rcases Nat.lt_trichotomy h k with e | e | e
 ·exact e
 ·subst e; rw [cmpVal_ok.refl] at hc; omega
 have := List.pairwise_iff_getElem.1 hs k h k1 h1 e
 have := cmpVal_ok.anti l[h] l[k]
 omega
theorem bs_ge {l : List Val} {k h : Nat} {v x : Val} (hs : l.Pairwise (fun x y => cmpVal x y < 0)) (hk : l[k]? = some v) (hx : l[h]? = some x) (hc : ¬ cmpVal x v < 0) : k ≤ h := by
 obtain ⟨k1, rfl⟩ := List.getElem?_eq_some_iff.1 hk
 obtain ⟨h1, rfl⟩ := List.getElem?_eq_some_iff.1 hx
 rcases Nat.lt_or_ge h k with e | e
 ·exact absurd (List.pairwise_iff_getElem.1 hs h k h1 k1 e) hc
 exact e
set_option maxRecDepth 100000 in
set_option maxHeartbeats 1000000 in
theorem bsearch_fc (l : List Val) (k : Nat) (v : Val) (hk : l[k]? = some v) (hs : l.Pairwise (fun x y => cmpVal x y < 0)) (h6 : l.length ≤ 1000000) : FC Tryz.prog 51 [vals l, .agg (valL v), .fn 50 []] (.tup [i64 (k : Nat), bl true]) := by
 refine fc_of_awp [6, 7] Tryz.func51 rfl rfl 49 Tryz.ntmps51 (Nat.le_of_ble_eq_true rfl) ?_
 intro E hN
 refine a_lm 0 rfl (fun hl0 => ?_)
 have hkl : k < l.length := (List.getElem?_eq_some_iff.1 hk).1
 refine rn20 ?_
 refine awp_loop (fun x : {q : Nat × Nat // q.1 ≤ k ∧ k ≤ q.2 ∧ q.2 ≤ l.length} => ⟨[(0, vals l), (2, .fn 50 []), (4, .ptr 0 0), (8, i64 l.length), (9, i64 (x.1.1 : Nat)), (10, i64 (x.1.2 : Nat))], [(0, .var 30 (valL v))], 1⟩) (fun x => x.1.2 - x.1.1) (⟨(0, l.length), Nat.zero_le _, by omega, Nat.le_refl _⟩) ?_ ?_
 ·
  exact weak_scrub' rfl (zz3 ⟨(cgI (by simp)), rfl, rfl, rfl, (cgI (by simp)), rfl, trivial⟩) ⟨rfl, rfl, rfl, trivial⟩
 rintro ⟨⟨i, j⟩, hi, hj, hjl⟩
 dsimp only at hi hj hjl ⊢
 refine rn7 ?_
 refine zq ?_ ?_ <;> intro h12
 ·
  have lti : i < j := by have := of_decide_eq_true h12; omega
  obtain ⟨x, hx⟩ := get_lt (show (i + j) / 2 < l.length by omega)
  refine rn6 ?_; refine zP (q_addi rfl rfl rfl (by omega)) ?_; refine zP (q_convN rfl rfl ((i + j : Nat) : Int) (mid_u64 (by omega))) ?_; refine zB ?_
  refine zP (q_convN rfl rfl (((i + j) / 2 : Nat) : Int) (mid_i64 (by omega))) ?_; refine rn3 ?_; refine awp_draw 7 (by kernel_rfl) (by kernel_rfl) ?_
  refine rn3 ?_; refine zp (q_elem rfl rfl rfl ((i + j) / 2) (by omega) _ (val_get hx) rfl) ?_; refine rn2 ?_
  refine zp (q_callv (cmpVal_fc x v) rfl rfl rfl rfl) ?_; change AOps _ _ _ _ _ _; refine rn2 ?_
  refine zq ?_ ?_ <;> intro h21
  ·
   have h5 := of_decide_eq_true h21
   refine rn2 ?_; refine zP (q_addi rfl rfl rfl (by omega)) ?_; refine zS ?_; refine aops_nil ?_
   exact ⟨⟨((i + j) / 2 + 1, j), by have := bs_lt hs hk hx h5; omega, hj, hjl⟩, weak_scrub' rfl (zz4 ⟨(cgI (by first | rfl | (dsimp only; omega))), rfl, (cgI (by first | rfl | (dsimp only; omega))), rfl, trivial⟩) ⟨rfl, rfl, rfl, trivial⟩, by dsimp only; omega⟩
  have h5 := of_decide_eq_false h21
  refine rn3 ?_; refine aops_nil ?_
  exact ⟨⟨(i, (i + j) / 2), hi, bs_ge hs hk hx h5, by omega⟩, weak_scrub' rfl (zz4 ⟨(cgI (by first | rfl | (dsimp only; omega))), rfl, (cgI (by first | rfl | (dsimp only; omega))), rfl, trivial⟩) ⟨rfl, rfl, rfl, trivial⟩, by dsimp only; omega⟩
 have gei : ¬ i < j := by have := of_decide_eq_false h12; omega
 obtain rfl : k = i := by omega
 refine rn2 ?_; refine awp_draw 15 (by kernel_rfl) (by kernel_rfl) ?_; refine rn3 ?_
 refine zp (q_binb (b := true) rfl rfl rfl (by simp; omega)) ?_
 refine rn4 ?_; refine zp (q_elem rfl rfl rfl k rfl _ (val_get hk) rfl) ?_; refine rn2 ?_; refine zp (q_callv (cmpVal_fc v v) rfl rfl rfl rfl) ?_
 refine zp (q_binb (b := true) rfl rfl rfl (by rw [cmpVal_ok.refl]; rfl)) ?_
 refine zp (q_pick1 rfl rfl rfl rfl) ?_; refine zp (q_assign rfl rfl) ?_; change AOps _ _ _ _ _ _; refine zS ?_; refine zQ ?_
 rfl
end Go.Proofs.YtaecccdkjmipeaaGreat
