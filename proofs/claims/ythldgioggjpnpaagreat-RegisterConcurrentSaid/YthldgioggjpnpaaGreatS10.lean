/-
  Plain laws: the examples of the chapter, computed.
-/
import Derived.Test.YthldgioggjpnpaaGreatS9
import Derived.Test.YthldgioggjpnpaaGreatR21
import Derived.Test.YthldgioggjpnpaaGreatR22
namespace Go.Proofs.YthldgioggjpnpaaGreat
open Go.RowKit

theorem sortedEn_uniq {l1 l2 : List En} (hp : l1.Perm l2) (h1 : l1.Pairwise (fun x y => cmpEn x y ≤ 0)) (h2 : l2.Pairwise (fun x y => cmpEn x y ≤ 0)) : l1 = l2 :=
  hp.eq_of_pairwise (fun a b _ _ e1 e2 => by
    have := cmpEn_ok.anti a b
    have := cmpEn_ok.anti b a
    exact cmpEn_ok.eq _ _ (by omega)) h1 h2

def xE : En := ([(1, 1)], [120])
def yE : En := ([(1, 1), (2, 1)], [121])
def zE : En := ([(0, 1)], [122])
def rE : En := ([(0, 2), (1, 1), (2, 1)], [121])

theorem merge_dec {a b c : List Tk} (ha : validT a = true) (hb : validT b = true) (h : mergeW a b = c) : walkT maxF a b = c := by rw [← mergeW_eq ha hb]; exact h
theorem aw_reg0 : isReg 0 0 0 [] = true := by decide
theorem aw_regx : isReg 0 0 0 [xE] = true := by decide
theorem aw_regy : isReg 0 0 0 [yE] = true := by decide
theorem aw_regz : isReg 0 0 0 [zE] = true := by decide
theorem aw_cmp (a b : En) (ha : validT a.1 = true) (hb : validT b.1 = true) (c : Int) (h : (if leqT a.1 b.1 = true then (if leqT b.1 a.1 = true then 0 else 1) else (if leqT b.1 a.1 = true then 2 else 3)) = c) : cmpT a.1 b.1 = c := by rw [cmpT_leq ha hb]; exact h
theorem aw_yz : cmpT yE.1 zE.1 = 3 := aw_cmp _ _ (by decide) (by decide) _ (by decide)
theorem aw_zy : cmpT zE.1 yE.1 = 3 := aw_cmp _ _ (by decide) (by decide) _ (by decide)
theorem aw_yy : cmpT yE.1 yE.1 = 0 := aw_cmp _ _ (by decide) (by decide) _ (by decide)
theorem aw_xy : cmpT xE.1 yE.1 = 1 := aw_cmp _ _ (by decide) (by decide) _ (by decide)
theorem aw_yx : cmpT yE.1 xE.1 = 2 := aw_cmp _ _ (by decide) (by decide) _ (by decide)
theorem aw_xz : cmpT xE.1 zE.1 = 3 := aw_cmp _ _ (by decide) (by decide) _ (by decide)

theorem aw_regj : isReg 0 0 0 [yE, zE] = true := by
  have h : regB [yE, zE] = true := by
    unfold regB regFrom
    rw [Bool.and_eq_true]
    refine ⟨by decide, ?_⟩
    rw [List.nil_append]
    unfold regFrom
    rw [Bool.and_eq_true]
    refine ⟨(oneOk_iff _ _).2 ⟨by decide, by decide, by decide, by decide, fun d hd => ?_⟩, rfl⟩
    rw [List.mem_singleton] at hd
    subst hd
    unfold clashT
    rw [aw_zy]; rfl
  rw [isReg, h]; rfl
theorem aw_wx : writeR true [] 1 [120] = (0, [xE]) := by
  have h : walkT maxF (clockR []) [(1, getT (clockR []) 1 + 1)] = xE.1 := merge_dec (by decide) (by decide) (by decide)
  unfold writeR
  rw [if_neg (by decide), if_neg (by decide), if_neg (by decide), if_neg (by decide), h]
  rfl
theorem aw_cx : clockR [xE] = [(1, 1)] := merge_dec (by decide) (by decide) (by decide)
theorem aw_wy : writeR true [xE] 2 [121] = (0, [yE]) := by
  have h : walkT maxF [(1, 1)] [(2, getT [(1, 1)] 2 + 1)] = yE.1 := merge_dec (by decide) (by decide) (by decide)
  unfold writeR
  rw [aw_cx, if_neg (by decide), if_neg (by decide), if_neg (by decide), if_neg (by decide), h]
  rfl
theorem aw_wz : writeR true [] 0 [122] = (0, [zE]) := by
  have h : walkT maxF (clockR []) [(0, getT (clockR []) 0 + 1)] = zE.1 := merge_dec (by decide) (by decide) (by decide)
  unfold writeR
  rw [if_neg (by decide), if_neg (by decide), if_neg (by decide), if_neg (by decide), h]
  rfl
theorem aw_cj : clockR [yE, zE] = [(0, 1), (1, 1), (2, 1)] := by
  have h1 : walkT maxF [] yE.1 = yE.1 := merge_dec (by decide) (by decide) (by decide)
  show walkT maxF (walkT maxF [] yE.1) zE.1 = _
  rw [h1]
  exact merge_dec (by decide) (by decide) (by decide)
theorem aw_names : NamesOf [yE, zE] [[121], [122]] := by
  refine ⟨by decide, fun x => ?_⟩
  constructor
  · intro h
    rw [List.mem_cons, List.mem_singleton] at h
    rcases h with rfl | rfl
    · exact ⟨yE, by simp, rfl⟩
    · exact ⟨zE, by simp, rfl⟩
  · rintro ⟨e, he, rfl⟩
    rw [List.mem_cons, List.mem_singleton] at he
    rcases he with rfl | rfl <;> decide
theorem aw_namesy : NamesOf [yE] [[121]] := by
  refine ⟨by decide, fun x => ?_⟩
  constructor
  · intro h
    rw [List.mem_singleton] at h
    subst h
    exact ⟨yE, by simp, rfl⟩
  · rintro ⟨e, he, rfl⟩
    rw [List.mem_singleton] at he
    subst he
    decide
theorem aw_res : resolveR true [yE, zE] 0 [[121], [122]] = (0, [rE]) := by
  have h : walkT maxF [(0, 1), (1, 1), (2, 1)] [(0, getT [(0, 1), (1, 1), (2, 1)] 0 + 1)] = rE.1 := merge_dec (by decide) (by decide) (by decide)
  unfold resolveR
  rw [if_neg (by decide), if_neg (by decide)]
  show writeR true [yE, zE] 0 [121] = _
  unfold writeR
  rw [aw_cj, if_neg (by decide), if_neg (by decide), if_neg (by decide), if_neg (by decide), h]
  rfl
theorem aw_joined {es : List En} (h : JoinedTo [] [(0, 0, 0, [yE]), (0, 0, 0, [zE])] es) : es = [yE, zE] := by
  obtain ⟨es1, hp1, hs1, es2, hp2, hs2, h3⟩ := h
  have e3 : es = es2 := h3
  subst e3
  have m1 : mergedL [] [yE] = [yE] := by
    unfold mergedL; rfl
  have e1 : es1 = [yE] := by
    have := hp1
    dsimp only at this
    rw [m1] at this
    exact List.perm_singleton.1 this
  subst e1
  have m2 : mergedL [yE] [zE] = [yE, zE] := by
    unfold mergedL
    simp [underE, isBefore, aw_yz, aw_zy]
  dsimp only at hp2
  rw [m2] at hp2
  exact sortedEn_uniq hp2 hs2 (by decide)
theorem aw_since : sinceR [yE, zE] [yE] = [zE] := by
  unfold sinceR
  simp [underE, aw_yy, aw_zy]
theorem aw_cov1 : coversB [yE, zE] [xE] = true := by
  unfold coversB
  simp [underE, aw_xy]
theorem aw_cov2 : coversB [xE] [yE, zE] = false := by
  unfold coversB
  simp [underE, aw_yx]
end Go.Proofs.YthldgioggjpnpaaGreat
