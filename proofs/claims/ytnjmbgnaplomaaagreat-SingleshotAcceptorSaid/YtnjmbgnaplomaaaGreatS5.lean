/-
  The law SingleshotAcceptor.
  Arguments opened: lists of ballots.
-/
import Derived.Test.YtnjmbgnaplomaaaGreatS4
import Derived.Test.YtnjmbgnaplomaaaGreatB16
import Derived.Test.YtnjmbgnaplomaaaGreatS1
namespace Go.Proofs.YtnjmbgnaplomaaaGreat
open Go.RowKit
set_option maxRecDepth 100000 in
set_option maxHeartbeats 1000000 in
theorem lawAcc_big (l : Lat) (id : Int) (bs : List Bal) (hS : smallBs bs 20 = false) : FC Tryz.prog 3 [.agg (latL l), i64 id, bals bs] (bl true) := by
 refine fc_of_awp [6] Tryz.func3 rfl rfl 89 Tryz.ntmps3 (Nat.le_of_ble_eq_true rfl) ?_
 intro E hN
 refine zG ?_; refine zX ?_; refine zT ?_; refine zH ?_; refine zM ?_; refine zP (q_call (fcb (c := false) (rSmallBs_fc bs 20) hS) rfl rfl rfl) ?_
 refine zP (q_not rfl rfl) ?_; refine zN ?_; refine c_true rfl rfl ?_; refine zG ?_; refine zP (q_call awake34_fc rfl rfl rfl) ?_; refine zS ?_
 refine zQ ?_
 rfl
set_option maxRecDepth 100000 in
set_option maxHeartbeats 1000000 in
theorem lawAcc_err (l : Lat) (id : Int) (bs : List Bal) (hS : smallBs bs 20 = true) (hbad : ¬ checkX l = 0 ∨ id < 0 ∨ 12 ≤ id) : FC Tryz.prog 3 [.agg (latL l), i64 id, bals bs] (bl true) := by
 refine fc_of_awp [6] Tryz.func3 rfl rfl 89 Tryz.ntmps3 (Nat.le_of_ble_eq_true rfl) ?_
 intro E hN
 refine zG ?_; refine zX ?_; refine zT ?_; refine zH ?_; refine zM ?_; refine zP (q_call (fcb (c := true) (rSmallBs_fc bs 20) hS) rfl rfl rfl) ?_
 refine zP (q_not rfl rfl) ?_; refine zN ?_; refine c_false rfl rfl ?_; refine zW ?_; refine zG ?_; refine zL ?_; refine zM ?_
 refine zP (q_call (newA_fc l id hbad) rfl rfl rfl) ?_; refine zM ?_; refine zP (q_extract rfl rfl rfl) ?_; refine zP (q_extract rfl rfl rfl) ?_
 refine zS ?_; refine zS ?_; refine zA ?_; refine zL ?_; refine zM ?_; refine zP (q_call (rnewA_fc l id hbad) rfl rfl rfl) ?_; refine zM ?_
 refine zP (q_extract rfl rfl rfl) ?_; refine zP (q_extract rfl rfl rfl) ?_; refine zS ?_; refine zT ?_; refine zH ?_; refine zM ?_; refine zM ?_
 refine zB ?_; refine zN ?_; refine c_false rfl rfl ?_; refine zW ?_; refine zH ?_; refine zM ?_; refine zB ?_; refine zN ?_; refine c_true rfl rfl ?_
 refine zG ?_; refine zP (q_call awake34_fc rfl rfl rfl) ?_; refine zS ?_; refine zQ ?_
 rfl
set_option maxRecDepth 100000 in
set_option maxHeartbeats 1000000 in
theorem lawAcc_ok (l : Lat) (id : Int) (bs : List Bal) (hS : smallBs bs 20 = true) (hc : checkX l = 0) (h0 : 0 ≤ id) (h1 : id < 12) : FC Tryz.prog 3 [.agg (latL l), i64 id, bals bs] (bl true) := by
 have hsm := smallBs_ok hS
 have hbot := bottomC_v hc
 refine fc_of_awp [6] Tryz.func3 rfl rfl 89 Tryz.ntmps3 (Nat.le_of_ble_eq_true rfl) ?_
 intro E hN
 refine a_lm 2 rfl (fun hl2 => ?_)
 refine zG ?_; refine zX ?_; refine zT ?_; refine zH ?_; refine zM ?_; refine zP (q_call (fcb (c := true) (rSmallBs_fc bs 20) hS) rfl rfl rfl) ?_
 refine zP (q_not rfl rfl) ?_; refine zN ?_; refine c_false rfl rfl ?_; refine zW ?_; refine zG ?_; refine zL ?_; refine zM ?_
 refine s_ncall hN rfl (newA_fn l id hc h0 h1) (.fn _ _ _ _ rfl rfl) rfl rfl rfl rfl rfl ?_; refine zM ?_; refine zP (q_extract rfl rfl rfl) ?_
 refine zP (q_extract rfl rfl rfl) ?_; refine zS ?_; refine zS ?_; refine zA ?_; refine zL ?_; refine zM ?_
 refine s_ncall hN rfl (rnewA_fn l id hc h0 h1) (.fn _ _ _ _ rfl rfl) rfl rfl rfl rfl rfl ?_; refine zM ?_; refine zP (q_extract rfl rfl rfl) ?_
 refine zP (q_extract rfl rfl rfl) ?_; refine zS ?_; refine zT ?_; refine zH ?_; refine zM ?_; refine zM ?_; refine zB ?_; refine zN ?_
 refine c_false rfl rfl ?_; refine zW ?_; refine zH ?_; refine zM ?_; refine zB ?_; refine zN ?_; refine c_false rfl rfl ?_; refine zW ?_; refine zH ?_
 refine zT ?_; refine awp_block ?_
 refine awp_loop (fun q : {q : Nat × Val // q.1 ≤ bs.length ∧ elemB q.2 l = true ∧ SmV (64 + 40 * q.1) q.2} => ⟨[(2, bals bs), (3, .ptr 0 0), (7, .ptr 1 0), (9, .ptr 2 0), (11, i64 (q.1.1 : Nat))], [(0, .var 26 (latL l)), (1, .var 92 (accC l id q.1.2)), (2, .var 44 (accC l id q.1.2))], 3⟩) (fun q => bs.length - q.1.1) (⟨(0, (bottomC l).1), Nat.zero_le _, by rw [hbot]; exact bot_elem l (check_ok hc), by rw [hbot]; exact sm_bot l (check_ok hc)⟩) ?_ ?_
 ·
  exact weak_scrub' rfl (zz4 (zz1 trivial)) ⟨rfl, rfl, rfl, rfl, rfl, rfl, rfl, rfl, rfl, trivial⟩
 rintro ⟨⟨k, v⟩, hk, hv, sv⟩
 dsimp only at hk hv sv ⊢
 have hb20 := hsm.1
 refine zH ?_; refine zM ?_; refine zM ?_; refine zE ?_; refine zB ?_; refine zN ?_
 refine zq ?_ ?_ <;> intro h21
 ·
  have hlt : k < bs.length := by simpa using h21
  obtain ⟨x, hx⟩ := get_lt hlt
  have sx := hsm.2 x (List.mem_of_getElem? hx)
  have hr := recvA_el hc hv (id := id) x
  have sr := recvA_sm (id := id) (b := x) hc (by omega) hv sv sx
  refine zW ?_; refine awp_seq ?_; refine awp_block ?_; refine awp_seq ?_; refine awp_seq ?_; refine awp_draw 7 (by kernel_rfl) (by kernel_rfl) ?_
  refine zm ?_; refine zp (q_gread1 1 (valueA_gc l id v hc hv (sv.up (show 64 + 40 * k ≤ 1000 by omega))) rfl rfl rfl rfl rfl rfl rfl rfl rfl) ?_
  refine zm ?_; refine zp (q_nil rfl rfl rfl) ?_; refine zf ?_; refine zl ?_
  refine zp (q_call (fcb (c := true) (rEqual_fc v v) (eqV_self _)) rfl rfl rfl) ?_; change AOps _ _ _ _ _ _; refine zP (q_not rfl rfl) ?_; refine zN ?_
  refine c_false rfl rfl ?_; refine zW ?_; refine zG ?_; refine zM ?_; refine zM ?_; refine zM ?_
  refine zP (q_elem rfl rfl rfl k rfl _ (balC_get hx) rfl) ?_; refine zL ?_
  refine s_gcall1 hN 1 (recvA_gc l id v x hc hv (sv.up (show 64 + 40 * k ≤ 900 by omega)) sx) (.fn _ _ _ _ rfl rfl) rfl rfl rfl rfl rfl rfl rfl rfl rfl rfl rfl ?_
  refine zM ?_; refine zP (q_extract rfl rfl rfl) ?_; refine zP (q_extract rfl rfl rfl) ?_; refine zO ?_; refine zC ?_; refine zS ?_; refine zA ?_
  refine zM ?_; refine zM ?_; refine zM ?_; refine zP (q_elem rfl rfl rfl k rfl _ (balC_get hx) rfl) ?_; refine zL ?_
  refine s_gcall1 hN 2 (rrecvA_gc l id v x hc hv (show 64 + 40 * k ≤ 900000 by omega) sv sx) (.fn _ _ _ _ rfl rfl) rfl rfl rfl rfl rfl rfl rfl rfl rfl rfl rfl ?_
  refine zM ?_; refine zP (q_extract rfl rfl rfl) ?_; refine zP (q_extract rfl rfl rfl) ?_; refine zO ?_; refine zC ?_; refine zS ?_; refine zA ?_
  refine zM ?_; refine zM ?_; refine zP (q_binb (b := false) rfl rfl rfl (by simp)) ?_; refine zM ?_; refine zL ?_; refine zL ?_
  refine zP (q_call (fcb (c := true) (rSameBal_fc (recvA l id v x).2.1 (recvA l id v x).2.1) (sameBal_refl _)) rfl rfl rfl) ?_
  refine zP (q_not rfl rfl) ?_; refine zh0 rfl ?_; refine zN ?_; refine c_false rfl rfl ?_; refine awp_skip ?_; change AWP _ _ _ _  _
  refine awp_region ?_; refine zM ?_; refine zP (q_addi rfl rfl rfl (by omega)) ?_; refine zS ?_; refine aops_nil ?_
  exact ⟨⟨(k + 1, (recvA l id v x).1), hlt, hr, sr.up (by omega)⟩, weak_scrub' rfl (zz4 ⟨(cgI (by dsimp only; omega)), rfl, trivial⟩) ⟨rfl, rfl, rfl, rfl, rfl, rfl, rfl, rfl, rfl, trivial⟩, by dsimp only; omega⟩
 have hge : bs.length ≤ k := by simpa using h21
 refine awp_exit ?_; change AWP _ _ _ _  _; refine awp_seq ?_; refine awp_draw 10 (by kernel_rfl) (by kernel_rfl) ?_
 refine zp (q_call awake34_fc rfl rfl rfl) ?_; refine zm ?_; refine zm ?_
 refine zp (q_gread1 1 (valueA_gc l id v hc hv (sv.up (show 64 + 40 * k ≤ 1000 by omega))) rfl rfl rfl rfl rfl rfl rfl rfl rfl) ?_; refine zm ?_
 refine zp (q_nil rfl rfl rfl) ?_; refine zf ?_; refine zl ?_; refine zp (q_call (fcb (c := true) (rEqual_fc v v) (eqV_self _)) rfl rfl rfl) ?_
 refine zp (q_pick1 rfl rfl rfl rfl) ?_; change AOps _ _ _ _ _ _; refine zS ?_; refine zQ ?_
 rfl
theorem lawAcc_fc (l : Lat) (id : Int) (bs : List Bal) : FC Tryz.prog 3 [.agg (latL l), i64 id, bals bs] (bl true) := by
 cases hS : smallBs bs 20 with
 | false => exact lawAcc_big l id bs hS
 | true =>
  by_cases hc : checkX l = 0
  ·by_cases h0 : 0 ≤ id
   ·by_cases h1 : id < 12
    ·exact lawAcc_ok l id bs hS hc h0 h1
    exact lawAcc_err l id bs hS (.inr (.inr (by omega)))
   exact lawAcc_err l id bs hS (.inr (.inl (by omega)))
  exact lawAcc_err l id bs hS (.inl hc)
end Go.Proofs.YtnjmbgnaplomaaaGreat

namespace Go.Proofs.YtnjmbgnaplomaaaGreat
open Go.RowKit Go.ChangeShapes Go.WideShapes Go.ChangeAt
section
variable {H : Type} {enc : TypeId × Value → H} {w : World} {base : Nat} {spare : Nat → Bool} {held : Bool}
set_option maxRecDepth 100000 in
theorem open_Bs {fuel : Nat} {v : Value} {x : DataW H × List MemPlace} (h : DataW.trod enc Tryz.prog w base spare held fuel 27 [v] = some x) : ∃ l : List Bal, FR w (AllS w) v (bals l) :=
 open_sl Tryz.underlying27 8 (by kernel_rfl) (by decide) h (fun b => balC b) (fun _ => rfl) (fun m ds y _ hdl ht => by
  obtain ⟨u0, u1, u2, u3, u4, u5, u6, u7, rfl⟩ : ∃ a b c d e f g h, ds = [a, b, c, d, e, f, g, h] := by
   match ds, hdl with
   | [a, b, c, d, e, f, g, h], _ => exact ⟨a, b, c, d, e, f, g, h, rfl⟩
  obtain ⟨xs, k, -, rfl, hl, hlen, hf⟩ := DataW.trod_struct Tryz.underlying46 ht
  have f0 := hf 0 _ rfl
  have f1 := hf 1 _ rfl
  have f2 := hf 2 _ rfl
  have f3 := hf 3 _ rfl
  have f4 := hf 4 _ rfl
  have hx0 : xs[0]? = some (xs[0]'(by rw [hlen]; decide)) := List.getElem?_eq_getElem _
  have hx1 : xs[1]? = some (xs[1]'(by rw [hlen]; decide)) := List.getElem?_eq_getElem _
  have hx2 : xs[2]? = some (xs[2]'(by rw [hlen]; decide)) := List.getElem?_eq_getElem _
  have hx3 : xs[3]? = some (xs[3]'(by rw [hlen]; decide)) := List.getElem?_eq_getElem _
  have hx4 : xs[4]? = some (xs[4]'(by rw [hlen]; decide)) := List.getElem?_eq_getElem _
  obtain ⟨p0, hp0, -⟩ := DataW.trod_int Tryz.underlying3 (f0.trans hx0)
  have hq0 : [u0] = [Value.int .i64 p0] := hp0
  obtain ⟨p1, hp1, -⟩ := DataW.trod_int Tryz.underlying3 (f1.trans hx1)
  have hq1 : [u1] = [Value.int .i64 p1] := hp1
  obtain ⟨p2, hp2, -⟩ := DataW.trod_int Tryz.underlying3 (f2.trans hx2)
  have hq2 : [u2] = [Value.int .i64 p2] := hp2
  obtain ⟨p3, hp3, -⟩ := DataW.trod_int Tryz.underlying3 (f3.trans hx3)
  have hq3 : [u3] = [Value.int .i64 p3] := hp3
  simp only [List.cons.injEq, and_true] at hq0 hq1 hq2 hq3
  subst hq0 hq1 hq2 hq3
  obtain ⟨-, z, hz⟩ := open_V _ _ _ (f4.trans hx4)
  refine ⟨⟨p0, p1, p2, p3, z⟩, fun i u a hi ha => ?_⟩
  match i, hi, ha with
  | 0, hi, ha => simp at hi ha; subst hi ha; exact .p _
  | 1, hi, ha => simp at hi ha; subst hi ha; exact .p _
  | 2, hi, ha => simp at hi ha; subst hi ha; exact .p _
  | 3, hi, ha => simp at hi ha; subst hi ha; exact .p _
  | 4, hi, ha => exact hz 0 u a hi ha
  | 5, hi, ha => exact hz 1 u a hi ha
  | 6, hi, ha => exact hz 2 u a hi ha
  | 7, hi, ha => exact hz 3 u a hi ha
  | i + 8, hi, _ => simp at hi)
end
end Go.Proofs.YtnjmbgnaplomaaaGreat
