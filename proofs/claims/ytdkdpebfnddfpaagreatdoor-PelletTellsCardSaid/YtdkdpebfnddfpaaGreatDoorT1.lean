/- Contracts of this seat's functions (of each call: what it answers), walked over the abstract machine, and the laws of numbers that they want. Conditions: those that each theorem states. -/
import Derived.Test.YtdkdpebfnddfpaaGreatDoorS2
/-! PelletTells: the document's tests tell the same. -/
set_option linter.unusedVariables false
set_option maxRecDepth 20000
set_option linter.unusedSimpArgs false
set_option linter.unusedSectionVars false
namespace Go.Ab
open Go.Proofs
open Cx (zero one)
attribute [-go_sem] appF newsF
variable {a b : AV} {z w : Cx} {B C n m d : Nat} {cs ds : List AV} {f g : Po}

theorem osum_all {k : Nat} (P : Nat) (up : Bool) : ∀ d, (d ≤ k → osum f k P up d = osum f (-1) P up d) ∧ (k < d → osum f (-1) P up d = osum f k P up d + far (f k) P up)
  | 0 => ⟨fun _ => rfl, fun h => absurd h (Nat.not_lt_zero _)⟩
  | i + 1 => by
    obtain ⟨h1, h2⟩ := osum_all (k := k) P up i
    have hm : ¬ (i : Int) = -1 := by omega
    constructor
    · intro h
      have hk : ¬ (i : Int) = (k : Int) := by omega
      unfold osum
      rw [if_neg hk, if_neg hm, h1 (by omega)]
    · intro h
      unfold osum
      rw [if_neg hm]
      by_cases hk : (i : Int) = (k : Int)
      · have e : i = k := by omega
        subst e
        rw [if_pos rfl, h1 (Nat.le_refl _)]
      · rw [if_neg hk, h2 (by omega)]
        grind
theorem aYes_iff {k P : Nat} (h : k < d) : aYes f d k P ↔ tYes f d k P := by
  unfold aYes tYes
  rw [(osum_all P true d).2 h, show osum f k P true d + far (f k) P true - far (f k) P true = osum f k P true d by grind]
theorem first_of {p : Nat → Prop} : ∀ d : Nat, (∃ j, j < d ∧ (∀ i, i < j → ¬ p i) ∧ p j) ∨ ∀ i, i < d → ¬ p i
  | 0 => .inr (fun i h => absurd h (Nat.not_lt_zero i))
  | d + 1 => by
    rcases first_of (p := p) d with ⟨j, h1, h2, h3⟩ | h
    · exact .inl ⟨j, by omega, h2, h3⟩
    · by_cases q : p d
      · exact .inl ⟨d, by omega, h, q⟩
      · refine .inr (fun i hi => ?_)
        by_cases e : i = d
        · rw [e]; exact q
        · exact h i (by omega)
/-- what a test tells -/
def TV (f : Po) (d k P : Nat) (u : Int) : Prop := u = 1 ∧ tYes f d k P ∨ u = 0 ∧ ¬ tYes f d k P ∧ tNo f d k P ∨ u = 2 ∧ ¬ tYes f d k P ∧ ¬ tNo f d k P
theorem TV_ex (f : Po) (d k P : Nat) : ∃ u, TV f d k P u := by
  by_cases y : tYes f d k P
  · exact ⟨1, .inl ⟨rfl, y⟩⟩
  · by_cases o : tNo f d k P
    · exact ⟨0, .inr (.inl ⟨rfl, y, o⟩)⟩
    · exact ⟨2, .inr (.inr ⟨rfl, y, o⟩)⟩
theorem TV_one {k P : Nat} {u : Int} (h : TV f d k P u) : u = 1 ↔ tYes f d k P := by
  rcases h with ⟨rfl, h⟩ | ⟨rfl, h, _⟩ | ⟨rfl, h, _⟩
  · exact ⟨fun _ => h, fun _ => rfl⟩
  · exact ⟨fun e => absurd e (by decide), fun e => absurd e h⟩
  · exact ⟨fun e => absurd e (by decide), fun e => absurd e h⟩
theorem rnorm8_s (hz : CB z B) (hB : B ≤ 9000) : Sat CT false 33 [CI z] (DI (nrm z)) := by
  refine sat_of annulusref8_Norm.ok (by simp) ?_
  have DD := annulusref8_Norm.dr
  simp only [drP, drPx, drPt, drR, drS, drT, bodyOf, Tryz.f33, Nat.reduceEqDiff, reduceIte, true_and, and_true] at DD
  unfold nrm
  have u1 := rmul4 (RD_D hz.1) (RD_D hz.1) (by omega) (by omega)
  have u2 := rmul4 (RD_D hz.2) (RD_D hz.2) (by omega) (by omega)
  have u3 := radd4 (hz.1.mul hz.1) (hz.2.mul hz.2) (by omega) (by omega)
  simp -implicitDefEqProofs only [go_sem, Nat.reduceAdd, Nat.reduceEqDiff, Nat.reduceLT, reduceIte, reduceCtorEq, Int.reduceLE, Int.reduceLT, Int.reduceEq, Int.reduceAdd, Int.reduceMul, Int.reduceSub, Nat.reduceMul, Nat.reduceSub, Nat.reducePow, Nat.reduceLeDiff, Int.reduceToNat, Tryz.f33, DD]
  refine callK_q annulusref4_Mul.call (u1) rfl rfl ?_
  simp -implicitDefEqProofs only [go_sem, Nat.reduceAdd, Nat.reduceEqDiff, Nat.reduceLT, reduceIte, reduceCtorEq, Int.reduceLE, Int.reduceLT, Int.reduceEq, Int.reduceAdd, Int.reduceMul, Int.reduceSub, Nat.reduceMul, Nat.reduceSub, Nat.reducePow, Nat.reduceLeDiff, Int.reduceToNat, DD]
  refine callK_q annulusref4_Mul.call (u2) rfl rfl ?_
  simp -implicitDefEqProofs only [go_sem, Nat.reduceAdd, Nat.reduceEqDiff, Nat.reduceLT, reduceIte, reduceCtorEq, Int.reduceLE, Int.reduceLT, Int.reduceEq, Int.reduceAdd, Int.reduceMul, Int.reduceSub, Nat.reduceMul, Nat.reduceSub, Nat.reducePow, Nat.reduceLeDiff, Int.reduceToNat, DD]
  refine callK_q annulusref4_Add.call (u3) rfl rfl ?_
  simp -implicitDefEqProofs only [go_sem, Nat.reduceAdd, Nat.reduceEqDiff, Nat.reduceLT, reduceIte, reduceCtorEq, Int.reduceLE, Int.reduceLT, Int.reduceEq, Int.reduceAdd, Int.reduceMul, Int.reduceSub, Nat.reduceMul, Nat.reduceSub, Nat.reducePow, Nat.reduceLeDiff, Int.reduceToNat, DD]
theorem rfar_s (hz : CB z 296) (p m : Int) (hp : heldP p ≤ 400) : Sat CT false 15 [CI z, I64 p, I64 m] (DI (far z (heldP p) (decide (m = 1)))) := by
  refine sat_of annulusref8_Far.ok (by simp) ?_
  have DD := annulusref8_Far.dr
  simp only [drP, drPx, drPt, drR, drS, drT, bodyOf, Tryz.f15, Nat.reduceEqDiff, reduceIte, true_and, and_true] at DD
  have g1 := rnorm8_s hz (by decide)
  have hn := nrm_db hz
  by_cases q : dnum (nrm z) ≤ 0
  · have r1 := rroot4_n hn q (by decide) p m
    rw [show far z (heldP p) (decide (m = 1)) = 0 from droot_0 q _ _, DI_0]
    simp -implicitDefEqProofs only [go_sem, Nat.reduceAdd, Nat.reduceEqDiff, Nat.reduceLT, reduceIte, reduceCtorEq, Int.reduceLE, Int.reduceLT, Int.reduceEq, Int.reduceAdd, Int.reduceMul, Int.reduceSub, Nat.reduceMul, Nat.reduceSub, Nat.reducePow, Nat.reduceLeDiff, Int.reduceToNat, Tryz.f15, DD]
    refine callK_q annulusref8_Norm.call (g1) rfl rfl ?_
    simp -implicitDefEqProofs only [go_sem, Nat.reduceAdd, Nat.reduceEqDiff, Nat.reduceLT, reduceIte, reduceCtorEq, Int.reduceLE, Int.reduceLT, Int.reduceEq, Int.reduceAdd, Int.reduceMul, Int.reduceSub, Nat.reduceMul, Nat.reduceSub, Nat.reducePow, Nat.reduceLeDiff, Int.reduceToNat, DD]
    refine callK_q annulusref4_Root.call (r1) rfl rfl ?_
    simp -implicitDefEqProofs only [go_sem, Nat.reduceAdd, Nat.reduceEqDiff, Nat.reduceLT, reduceIte, reduceCtorEq, Int.reduceLE, Int.reduceLT, Int.reduceEq, Int.reduceAdd, Int.reduceMul, Int.reduceSub, Nat.reduceMul, Nat.reduceSub, Nat.reducePow, Nat.reduceLeDiff, Int.reduceToNat, DD, QZ]
    rfl
  · have r1 := rroot4_ok hn (Int.not_le.1 q) (Nat.le_trans (bl_B hn) (by decide)) (Nat.le_trans hn.num.2 (by decide)) (by decide) p m hp
    rw [show far z (heldP p) (decide (m = 1)) = droot (nrm z) (heldP p) (decide (m = 1)) from rfl]
    simp -implicitDefEqProofs only [go_sem, Nat.reduceAdd, Nat.reduceEqDiff, Nat.reduceLT, reduceIte, reduceCtorEq, Int.reduceLE, Int.reduceLT, Int.reduceEq, Int.reduceAdd, Int.reduceMul, Int.reduceSub, Nat.reduceMul, Nat.reduceSub, Nat.reducePow, Nat.reduceLeDiff, Int.reduceToNat, Tryz.f15, DD]
    refine callK_q annulusref8_Norm.call (g1) rfl rfl ?_
    simp -implicitDefEqProofs only [go_sem, Nat.reduceAdd, Nat.reduceEqDiff, Nat.reduceLT, reduceIte, reduceCtorEq, Int.reduceLE, Int.reduceLT, Int.reduceEq, Int.reduceAdd, Int.reduceMul, Int.reduceSub, Nat.reduceMul, Nat.reduceSub, Nat.reducePow, Nat.reduceLeDiff, Int.reduceToNat, DD]
    refine callK_q annulusref4_Root.call (r1) rfl rfl ?_
    simp -implicitDefEqProofs only [go_sem, Nat.reduceAdd, Nat.reduceEqDiff, Nat.reduceLT, reduceIte, reduceCtorEq, Int.reduceLE, Int.reduceLT, Int.reduceEq, Int.reduceAdd, Int.reduceMul, Int.reduceSub, Nat.reduceMul, Nat.reduceSub, Nat.reducePow, Nat.reduceLeDiff, Int.reduceToNat, DD]
theorem rcmp4_s {x y : Dyadic} (hx : DB x B) (hy : DB y C) (hB : B ≤ 19000) (hC : C ≤ 19000) : Sat CT false 28 [DI x, DI y] (I64 (dnum (x - y)).sign) := by
  refine sat_of annulusref4_Cmp.ok (by simp) ?_
  have DD := annulusref4_Cmp.dr
  simp only [drP, drPx, drPt, drR, drS, drT, bodyOf, Tryz.f28, Nat.reduceEqDiff, reduceIte, true_and, and_true] at DD
  have q1 := rsub4 hx hy (by omega) (by omega)
  have q2 := rsign4_r (RD_D ((hx.mono (Nat.le_max_left B C)).sub (hy.mono (Nat.le_max_right B C)))) (by omega)
  simp -implicitDefEqProofs only [go_sem, Nat.reduceAdd, Nat.reduceEqDiff, Nat.reduceLT, reduceIte, reduceCtorEq, Int.reduceLE, Int.reduceLT, Int.reduceEq, Int.reduceAdd, Int.reduceMul, Int.reduceSub, Nat.reduceMul, Nat.reduceSub, Nat.reducePow, Nat.reduceLeDiff, Int.reduceToNat, Tryz.f28, DD]
  refine callK_q annulusref4_Sub.call (q1) rfl rfl ?_
  simp -implicitDefEqProofs only [go_sem, Nat.reduceAdd, Nat.reduceEqDiff, Nat.reduceLT, reduceIte, reduceCtorEq, Int.reduceLE, Int.reduceLT, Int.reduceEq, Int.reduceAdd, Int.reduceMul, Int.reduceSub, Nat.reduceMul, Nat.reduceSub, Nat.reducePow, Nat.reduceLeDiff, Int.reduceToNat, DD]
  refine callK_q annulusref4_Sign.call (q2) rfl rfl ?_
  simp -implicitDefEqProofs only [go_sem, Nat.reduceAdd, Nat.reduceEqDiff, Nat.reduceLT, reduceIte, reduceCtorEq, Int.reduceLE, Int.reduceLT, Int.reduceEq, Int.reduceAdd, Int.reduceMul, Int.reduceSub, Nat.reduceMul, Nat.reduceSub, Nat.reducePow, Nat.reduceLeDiff, Int.reduceToNat, DD]
theorem rtest_out (k p : Int) (hk : k < 0 ∨ (d : Nat) ≤ k) : Sat CT false 12 [PA d f, I64 k, I64 p] (I64 0) := by
  refine sat_of annulusref11_Test.ok (by simp) ?_
  have DD := annulusref11_Test.dr
  simp only [drP, drPx, drPt, drR, drS, drT, bodyOf, Tryz.f12, Nat.reduceEqDiff, reduceIte, true_and, and_true] at DD
  have hP : PA d f = .sl d (pcl d f) := rfl
  by_cases h0 : k < 0
  · simp -implicitDefEqProofs only [go_sem, Nat.reduceAdd, Nat.reduceEqDiff, Nat.reduceLT, reduceIte, reduceCtorEq, Int.reduceLE, Int.reduceLT, Int.reduceEq, Int.reduceAdd, Int.reduceMul, Int.reduceSub, Nat.reduceMul, Nat.reduceSub, Nat.reducePow, Nat.reduceLeDiff, Int.reduceToNat, Tryz.f12, DD, h0, hP, ge_iff_le]
  · have h1 : (d : Int) ≤ k := by omega
    simp -implicitDefEqProofs only [go_sem, Nat.reduceAdd, Nat.reduceEqDiff, Nat.reduceLT, reduceIte, reduceCtorEq, Int.reduceLE, Int.reduceLT, Int.reduceEq, Int.reduceAdd, Int.reduceMul, Int.reduceSub, Nat.reduceMul, Nat.reduceSub, Nat.reducePow, Nat.reduceLeDiff, Int.reduceToNat, Tryz.f12, DD, h0, h1, hP, ge_iff_le]
set_option maxHeartbeats 2000000 in
theorem rtest_in (hf : PB f 296) (hd : d ≤ 1000) (k : Nat) (hk : k < d) (p : Int) (hp : heldP p ≤ 400) (u : Int) (hu : TV f d k (heldP p) u) : Sat CT false 12 [PA d f, I64 (k : Nat), I64 p] (I64 u) := by
  refine sat_of annulusref11_Test.ok (by simp) ?_
  have DD := annulusref11_Test.dr
  simp only [drP, drPx, drPt, drR, drS, drT, bodyOf, Tryz.f12, Nat.reduceEqDiff, reduceIte, true_and, and_true] at DD
  have hP : PA d f = .sl d (pcl d f) := rfl
  have hP1 := (heldP_v p).2.2.1
  have hl := pcl_len d f
  have c1 : ¬ (k : Int) < 0 := by omega
  have c2 : ¬ (d : Int) ≤ (k : Int) := by omega
  have D1 := osum_db hf k hP1 hp true
  have D0 := osum_db hf k hP1 hp false
  have F1 := fun i => rfar_s (hf i) p 1 hp
  have F0 := fun i => rfar_s (hf i) p 0 hp
  rw [show decide ((0 : Int) = 1) = false from rfl] at F0
  rw [show decide ((1 : Int) = 1) = true from rfl] at F1
  have B1 := fun i => far_db (hf i) hP1 hp true
  have B0 := fun i => far_db (hf i) hP1 hp false
  simp -implicitDefEqProofs only [go_sem, Nat.reduceAdd, Nat.reduceEqDiff, Nat.reduceLT, reduceIte, reduceCtorEq, Int.reduceLE, Int.reduceLT, Int.reduceEq, Int.reduceAdd, Int.reduceMul, Int.reduceSub, Nat.reduceMul, Nat.reduceSub, Nat.reducePow, Nat.reduceLeDiff, Int.reduceToNat, Tryz.f12, DD, c1, c2, hP, ge_iff_le]
  refine loop_of aW0_mono (fun q σ => ∃ sl o1 o2 i, σ = ⟨sl, [⟨o1, true, true⟩, ⟨o2, true, true⟩]⟩ ∧ q = d - i ∧ i ≤ d ∧ look sl 0 = .sl d (pcl d f) ∧ look sl 1 = I64 (k : Nat) ∧ look sl 2 = I64 p ∧ look sl 7 = .ptr 0 0 ∧ look sl 8 = .ptr 1 0 ∧ look sl 9 = I64 (i : Nat) ∧
    (o1 = zc3 ∧ o2 = zc3 ∧ osum f k (heldP p) true i = 0 ∧ osum f k (heldP p) false i = 0 ∨ o1 = dcl (osum f k (heldP p) true i) ∧ o2 = dcl (osum f k (heldP p) false i))) ?_ (n := d)
    ⟨_, zc3, zc3, 0, rfl, rfl, Nat.zero_le _, by simp [x_look], by simp [x_look], by simp [x_look], by simp [x_look], by simp [x_look], by simp [x_look], .inl ⟨rfl, rfl, rfl, rfl⟩⟩
  rintro q _ ⟨sl, o1, o2, i, rfl, rfl, hi, k0, k1, k2, k7, k8, k9, ho⟩
  by_cases hid : i = d
  · subst hid
    have c3 : (0 : Int) ≤ (k : Int) := by omega
    have c6 : (k : Int) < (i : Int) := by omega
    have c4 : k * 6 < i * 6 := by omega
    have c5 : k * 6 + 6 ≤ i * 6 := by omega
    have hc := pcl_el (n := i) f hk
    have K1 := rcmp4_s (B0 k) ((D1 i).mono (C := 9201) (by omega)) (by decide) (by decide)
    have K2 := rcmp4_s (B1 k) ((D0 i).mono (C := 9201) (by omega)) (by decide) (by decide)
    unfold TV tYes tNo dsg at hu
    rcases ho with ⟨rfl, rfl, e1, e2⟩ | ⟨rfl, rfl⟩
    · rw [e1, e2] at hu
      rw [e1] at K1
      rw [e2] at K2
      have K1 : Sat CT false 28 [DI (far (f k) (heldP p) false), DA false [] 0] (I64 (dnum (far (f k) (heldP p) false - 0)).sign) := by rw [← DI_0]; exact K1
      have K2 : Sat CT false 28 [DI (far (f k) (heldP p) true), DA false [] 0] (I64 (dnum (far (f k) (heldP p) true - 0)).sign) := by rw [← DI_0]; exact K2
      generalize (dnum (far (f k) (heldP p) false - 0)).sign = s1 at *
      generalize (dnum (far (f k) (heldP p) true - 0)).sign = s2 at *
      rcases hu with ⟨rfl, g1⟩ | ⟨rfl, g1, g2⟩ | ⟨rfl, g1, g2⟩
      · skip
        simp -implicitDefEqProofs only [go_sem, Nat.reduceAdd, Nat.reduceEqDiff, Nat.reduceLT, reduceIte, reduceCtorEq, Int.reduceLE, Int.reduceLT, Int.reduceEq, Int.reduceAdd, Int.reduceMul, Int.reduceSub, Nat.reduceMul, Nat.reduceSub, Nat.reducePow, Nat.reduceLeDiff, Int.reduceToNat, DD, k0, k1, k2, k7, k8, k9, Int.lt_irrefl, c3, c4, c5, c6, hc, hl, zc3, g1, gt_iff_lt]
        refine callK_pl annulusref8_Far.call (F0 k) (pl3 (pld_CI _) pld_int pld_int) ?_
        simp -implicitDefEqProofs only [go_sem, Nat.reduceAdd, Nat.reduceEqDiff, Nat.reduceLT, reduceIte, reduceCtorEq, Int.reduceLE, Int.reduceLT, Int.reduceEq, Int.reduceAdd, Int.reduceMul, Int.reduceSub, Nat.reduceMul, Nat.reduceSub, Nat.reducePow, Nat.reduceLeDiff, Int.reduceToNat, DD, k0, k1, k2, k7, k8, k9, Int.lt_irrefl, c3, c4, c5, c6, hc, hl, zc3, g1, gt_iff_lt]
        refine callK_q annulusref4_Cmp.call (K1) rfl rfl ?_
        simp -implicitDefEqProofs only [go_sem, Nat.reduceAdd, Nat.reduceEqDiff, Nat.reduceLT, reduceIte, reduceCtorEq, Int.reduceLE, Int.reduceLT, Int.reduceEq, Int.reduceAdd, Int.reduceMul, Int.reduceSub, Nat.reduceMul, Nat.reduceSub, Nat.reducePow, Nat.reduceLeDiff, Int.reduceToNat, DD, k0, k1, k2, k7, k8, k9, Int.lt_irrefl, c3, c4, c5, c6, hc, hl, zc3, g1, gt_iff_lt]
      all_goals
        simp -implicitDefEqProofs only [go_sem, Nat.reduceAdd, Nat.reduceEqDiff, Nat.reduceLT, reduceIte, reduceCtorEq, Int.reduceLE, Int.reduceLT, Int.reduceEq, Int.reduceAdd, Int.reduceMul, Int.reduceSub, Nat.reduceMul, Nat.reduceSub, Nat.reducePow, Nat.reduceLeDiff, Int.reduceToNat, DD, k0, k1, k2, k7, k8, k9, Int.lt_irrefl, c3, c4, c5, c6, hc, hl, zc3, g1, g2, gt_iff_lt]
        refine callK_pl annulusref8_Far.call (F0 k) (pl3 (pld_CI _) pld_int pld_int) ?_
        simp -implicitDefEqProofs only [go_sem, Nat.reduceAdd, Nat.reduceEqDiff, Nat.reduceLT, reduceIte, reduceCtorEq, Int.reduceLE, Int.reduceLT, Int.reduceEq, Int.reduceAdd, Int.reduceMul, Int.reduceSub, Nat.reduceMul, Nat.reduceSub, Nat.reducePow, Nat.reduceLeDiff, Int.reduceToNat, DD, k0, k1, k2, k7, k8, k9, Int.lt_irrefl, c3, c4, c5, c6, hc, hl, zc3, g1, g2, gt_iff_lt]
        refine callK_q annulusref4_Cmp.call (K1) rfl rfl ?_
        simp -implicitDefEqProofs only [go_sem, Nat.reduceAdd, Nat.reduceEqDiff, Nat.reduceLT, reduceIte, reduceCtorEq, Int.reduceLE, Int.reduceLT, Int.reduceEq, Int.reduceAdd, Int.reduceMul, Int.reduceSub, Nat.reduceMul, Nat.reduceSub, Nat.reducePow, Nat.reduceLeDiff, Int.reduceToNat, DD, k0, k1, k2, k7, k8, k9, Int.lt_irrefl, c3, c4, c5, c6, hc, hl, zc3, g1, g2, gt_iff_lt]
        refine callK_pl annulusref8_Far.call (F1 k) (pl3 (pld_CI _) pld_int pld_int) ?_
        simp -implicitDefEqProofs only [go_sem, Nat.reduceAdd, Nat.reduceEqDiff, Nat.reduceLT, reduceIte, reduceCtorEq, Int.reduceLE, Int.reduceLT, Int.reduceEq, Int.reduceAdd, Int.reduceMul, Int.reduceSub, Nat.reduceMul, Nat.reduceSub, Nat.reducePow, Nat.reduceLeDiff, Int.reduceToNat, DD, k0, k1, k2, k7, k8, k9, Int.lt_irrefl, c3, c4, c5, c6, hc, hl, zc3, g1, g2, gt_iff_lt]
        refine callK_q annulusref4_Cmp.call (K2) rfl rfl ?_
        simp -implicitDefEqProofs only [go_sem, Nat.reduceAdd, Nat.reduceEqDiff, Nat.reduceLT, reduceIte, reduceCtorEq, Int.reduceLE, Int.reduceLT, Int.reduceEq, Int.reduceAdd, Int.reduceMul, Int.reduceSub, Nat.reduceMul, Nat.reduceSub, Nat.reducePow, Nat.reduceLeDiff, Int.reduceToNat, DD, k0, k1, k2, k7, k8, k9, Int.lt_irrefl, c3, c4, c5, c6, hc, hl, zc3, g1, g2, gt_iff_lt]
    · generalize osum f k (heldP p) true i = y1 at *
      generalize osum f k (heldP p) false i = y0 at *
      generalize hs1 : (dnum (far (f k) (heldP p) false - y1)).sign = s1 at *
      generalize hs2 : (dnum (far (f k) (heldP p) true - y0)).sign = s2 at *
      rcases hu with ⟨rfl, g1⟩ | ⟨rfl, g1, g2⟩ | ⟨rfl, g1, g2⟩
      · skip
        simp -implicitDefEqProofs only [go_sem, Nat.reduceAdd, Nat.reduceEqDiff, Nat.reduceLT, reduceIte, reduceCtorEq, Int.reduceLE, Int.reduceLT, Int.reduceEq, Int.reduceAdd, Int.reduceMul, Int.reduceSub, Nat.reduceMul, Nat.reduceSub, Nat.reducePow, Nat.reduceLeDiff, Int.reduceToNat, DD, k0, k1, k2, k7, k8, k9, Int.lt_irrefl, c3, c4, c5, c6, hc, hl, dcl, g1, gt_iff_lt]
        refine callK_pl annulusref8_Far.call (F0 k) (pl3 (pld_CI _) pld_int pld_int) ?_
        simp -implicitDefEqProofs only [go_sem, Nat.reduceAdd, Nat.reduceEqDiff, Nat.reduceLT, reduceIte, reduceCtorEq, Int.reduceLE, Int.reduceLT, Int.reduceEq, Int.reduceAdd, Int.reduceMul, Int.reduceSub, Nat.reduceMul, Nat.reduceSub, Nat.reducePow, Nat.reduceLeDiff, Int.reduceToNat, DD, k0, k1, k2, k7, k8, k9, Int.lt_irrefl, c3, c4, c5, c6, hc, hl, dcl, g1, gt_iff_lt]
        refine callK_q annulusref4_Cmp.call (K1) rfl rfl ?_
        simp -implicitDefEqProofs only [go_sem, Nat.reduceAdd, Nat.reduceEqDiff, Nat.reduceLT, reduceIte, reduceCtorEq, Int.reduceLE, Int.reduceLT, Int.reduceEq, Int.reduceAdd, Int.reduceMul, Int.reduceSub, Nat.reduceMul, Nat.reduceSub, Nat.reducePow, Nat.reduceLeDiff, Int.reduceToNat, DD, k0, k1, k2, k7, k8, k9, Int.lt_irrefl, c3, c4, c5, c6, hc, hl, dcl, g1, gt_iff_lt]
      all_goals
        simp -implicitDefEqProofs only [go_sem, Nat.reduceAdd, Nat.reduceEqDiff, Nat.reduceLT, reduceIte, reduceCtorEq, Int.reduceLE, Int.reduceLT, Int.reduceEq, Int.reduceAdd, Int.reduceMul, Int.reduceSub, Nat.reduceMul, Nat.reduceSub, Nat.reducePow, Nat.reduceLeDiff, Int.reduceToNat, DD, k0, k1, k2, k7, k8, k9, Int.lt_irrefl, c3, c4, c5, c6, hc, hl, dcl, g1, g2, gt_iff_lt]
        refine callK_pl annulusref8_Far.call (F0 k) (pl3 (pld_CI _) pld_int pld_int) ?_
        simp -implicitDefEqProofs only [go_sem, Nat.reduceAdd, Nat.reduceEqDiff, Nat.reduceLT, reduceIte, reduceCtorEq, Int.reduceLE, Int.reduceLT, Int.reduceEq, Int.reduceAdd, Int.reduceMul, Int.reduceSub, Nat.reduceMul, Nat.reduceSub, Nat.reducePow, Nat.reduceLeDiff, Int.reduceToNat, DD, k0, k1, k2, k7, k8, k9, Int.lt_irrefl, c3, c4, c5, c6, hc, hl, dcl, g1, g2, gt_iff_lt]
        refine callK_q annulusref4_Cmp.call (K1) rfl rfl ?_
        simp -implicitDefEqProofs only [go_sem, Nat.reduceAdd, Nat.reduceEqDiff, Nat.reduceLT, reduceIte, reduceCtorEq, Int.reduceLE, Int.reduceLT, Int.reduceEq, Int.reduceAdd, Int.reduceMul, Int.reduceSub, Nat.reduceMul, Nat.reduceSub, Nat.reducePow, Nat.reduceLeDiff, Int.reduceToNat, DD, k0, k1, k2, k7, k8, k9, Int.lt_irrefl, c3, c4, c5, c6, hc, hl, dcl, g1, g2, gt_iff_lt]
        refine callK_pl annulusref8_Far.call (F1 k) (pl3 (pld_CI _) pld_int pld_int) ?_
        simp -implicitDefEqProofs only [go_sem, Nat.reduceAdd, Nat.reduceEqDiff, Nat.reduceLT, reduceIte, reduceCtorEq, Int.reduceLE, Int.reduceLT, Int.reduceEq, Int.reduceAdd, Int.reduceMul, Int.reduceSub, Nat.reduceMul, Nat.reduceSub, Nat.reducePow, Nat.reduceLeDiff, Int.reduceToNat, DD, k0, k1, k2, k7, k8, k9, Int.lt_irrefl, c3, c4, c5, c6, hc, hl, dcl, g1, g2, gt_iff_lt]
        refine callK_q annulusref4_Cmp.call (K2) rfl rfl ?_
        simp -implicitDefEqProofs only [go_sem, Nat.reduceAdd, Nat.reduceEqDiff, Nat.reduceLT, reduceIte, reduceCtorEq, Int.reduceLE, Int.reduceLT, Int.reduceEq, Int.reduceAdd, Int.reduceMul, Int.reduceSub, Nat.reduceMul, Nat.reduceSub, Nat.reducePow, Nat.reduceLeDiff, Int.reduceToNat, DD, k0, k1, k2, k7, k8, k9, Int.lt_irrefl, c3, c4, c5, c6, hc, hl, dcl, g1, g2, gt_iff_lt]
  · have c6 : (i : Int) < (d : Int) := by omega
    have ci : IntKind.i64.wrap ((i : Int) + 1) = ((i + 1 : Nat) : Int) := by rw [wrap_id (by omega)]; omega
    have c3 : (0 : Int) ≤ (i : Int) := by omega
    have c4 : i * 6 < d * 6 := by omega
    have c5 : i * 6 + 6 ≤ d * 6 := by omega
    have hc := pcl_el (n := d) f (show i < d by omega)
    by_cases hik : (i : Int) = (k : Int)
    · have eS : ∀ up, osum f k (heldP p) up (i + 1) = osum f k (heldP p) up i := fun up => if_pos hik
      have e : i = k := by omega
      subst e
      simp -implicitDefEqProofs only [go_sem, Nat.reduceAdd, Nat.reduceEqDiff, Nat.reduceLT, reduceIte, reduceCtorEq, Int.reduceLE, Int.reduceLT, Int.reduceEq, Int.reduceAdd, Int.reduceMul, Int.reduceSub, Nat.reduceMul, Nat.reduceSub, Nat.reducePow, Nat.reduceLeDiff, Int.reduceToNat, DD, k0, k1, k2, k7, k8, k9, c3, c4, c5, c6, ci, hc, hl, eq_self, not_true_eq_false, ne_eq, decide_false]
      exact ⟨d - (i + 1), by omega, _, o1, o2, i + 1, rfl, rfl, by omega, by simp [x_look, k0], by simp [x_look, k1], by simp [x_look, k2], by simp [x_look, k7], by simp [x_look, k8], by simp [x_look], by rw [eS, eS]; exact ho⟩
    · have eS : ∀ up, osum f k (heldP p) up (i + 1) = osum f k (heldP p) up i + far (f i) (heldP p) up := fun up => if_neg hik
      have A1 := radd4 ((D1 i).mono (C := 9201) (by omega)) (B1 i) (by decide) (by decide)
      have A0 := radd4 ((D0 i).mono (C := 9201) (by omega)) (B0 i) (by decide) (by decide)
      rw [← eS] at A1 A0
      rcases ho with ⟨rfl, rfl, e1, e2⟩ | ⟨rfl, rfl⟩
      · rw [e1, DI_0] at A1
        rw [e2, DI_0] at A0
        simp -implicitDefEqProofs only [go_sem, Nat.reduceAdd, Nat.reduceEqDiff, Nat.reduceLT, reduceIte, reduceCtorEq, Int.reduceLE, Int.reduceLT, Int.reduceEq, Int.reduceAdd, Int.reduceMul, Int.reduceSub, Nat.reduceMul, Nat.reduceSub, Nat.reducePow, Nat.reduceLeDiff, Int.reduceToNat, DD, k0, k1, k2, k7, k8, k9, c3, c4, c5, c6, ci, hc, hl, hik, zc3]
        refine callK_pl annulusref8_Far.call (F1 i) (pl3 (pld_CI _) pld_int pld_int) ?_
        simp -implicitDefEqProofs only [go_sem, Nat.reduceAdd, Nat.reduceEqDiff, Nat.reduceLT, reduceIte, reduceCtorEq, Int.reduceLE, Int.reduceLT, Int.reduceEq, Int.reduceAdd, Int.reduceMul, Int.reduceSub, Nat.reduceMul, Nat.reduceSub, Nat.reducePow, Nat.reduceLeDiff, Int.reduceToNat, DD, k0, k1, k2, k7, k8, k9, c3, c4, c5, c6, ci, hc, hl, hik, zc3]
        refine callK_q annulusref4_Add.call (A1) rfl rfl ?_
        simp -implicitDefEqProofs only [go_sem, Nat.reduceAdd, Nat.reduceEqDiff, Nat.reduceLT, reduceIte, reduceCtorEq, Int.reduceLE, Int.reduceLT, Int.reduceEq, Int.reduceAdd, Int.reduceMul, Int.reduceSub, Nat.reduceMul, Nat.reduceSub, Nat.reducePow, Nat.reduceLeDiff, Int.reduceToNat, DD, k0, k1, k2, k7, k8, k9, c3, c4, c5, c6, ci, hc, hl, hik, zc3]
        refine callK_pl annulusref8_Far.call (F0 i) (pl3 (pld_CI _) pld_int pld_int) ?_
        simp -implicitDefEqProofs only [go_sem, Nat.reduceAdd, Nat.reduceEqDiff, Nat.reduceLT, reduceIte, reduceCtorEq, Int.reduceLE, Int.reduceLT, Int.reduceEq, Int.reduceAdd, Int.reduceMul, Int.reduceSub, Nat.reduceMul, Nat.reduceSub, Nat.reducePow, Nat.reduceLeDiff, Int.reduceToNat, DD, k0, k1, k2, k7, k8, k9, c3, c4, c5, c6, ci, hc, hl, hik, zc3]
        refine callK_q annulusref4_Add.call (A0) rfl rfl ?_
        simp -implicitDefEqProofs only [go_sem, Nat.reduceAdd, Nat.reduceEqDiff, Nat.reduceLT, reduceIte, reduceCtorEq, Int.reduceLE, Int.reduceLT, Int.reduceEq, Int.reduceAdd, Int.reduceMul, Int.reduceSub, Nat.reduceMul, Nat.reduceSub, Nat.reducePow, Nat.reduceLeDiff, Int.reduceToNat, DD, k0, k1, k2, k7, k8, k9, c3, c4, c5, c6, ci, hc, hl, hik, zc3]
        exact ⟨d - (i + 1), by omega, _, _, _, i + 1, rfl, rfl, by omega, by simp [x_look, k0], by simp [x_look, k1], by simp [x_look, k2], by simp [x_look, k7], by simp [x_look, k8], by simp [x_look], .inr ⟨rfl, rfl⟩⟩
      · simp -implicitDefEqProofs only [go_sem, Nat.reduceAdd, Nat.reduceEqDiff, Nat.reduceLT, reduceIte, reduceCtorEq, Int.reduceLE, Int.reduceLT, Int.reduceEq, Int.reduceAdd, Int.reduceMul, Int.reduceSub, Nat.reduceMul, Nat.reduceSub, Nat.reducePow, Nat.reduceLeDiff, Int.reduceToNat, DD, k0, k1, k2, k7, k8, k9, c3, c4, c5, c6, ci, hc, hl, hik, dcl]
        refine callK_pl annulusref8_Far.call (F1 i) (pl3 (pld_CI _) pld_int pld_int) ?_
        simp -implicitDefEqProofs only [go_sem, Nat.reduceAdd, Nat.reduceEqDiff, Nat.reduceLT, reduceIte, reduceCtorEq, Int.reduceLE, Int.reduceLT, Int.reduceEq, Int.reduceAdd, Int.reduceMul, Int.reduceSub, Nat.reduceMul, Nat.reduceSub, Nat.reducePow, Nat.reduceLeDiff, Int.reduceToNat, DD, k0, k1, k2, k7, k8, k9, c3, c4, c5, c6, ci, hc, hl, hik, dcl]
        refine callK_q annulusref4_Add.call (A1) rfl rfl ?_
        simp -implicitDefEqProofs only [go_sem, Nat.reduceAdd, Nat.reduceEqDiff, Nat.reduceLT, reduceIte, reduceCtorEq, Int.reduceLE, Int.reduceLT, Int.reduceEq, Int.reduceAdd, Int.reduceMul, Int.reduceSub, Nat.reduceMul, Nat.reduceSub, Nat.reducePow, Nat.reduceLeDiff, Int.reduceToNat, DD, k0, k1, k2, k7, k8, k9, c3, c4, c5, c6, ci, hc, hl, hik, dcl]
        refine callK_pl annulusref8_Far.call (F0 i) (pl3 (pld_CI _) pld_int pld_int) ?_
        simp -implicitDefEqProofs only [go_sem, Nat.reduceAdd, Nat.reduceEqDiff, Nat.reduceLT, reduceIte, reduceCtorEq, Int.reduceLE, Int.reduceLT, Int.reduceEq, Int.reduceAdd, Int.reduceMul, Int.reduceSub, Nat.reduceMul, Nat.reduceSub, Nat.reducePow, Nat.reduceLeDiff, Int.reduceToNat, DD, k0, k1, k2, k7, k8, k9, c3, c4, c5, c6, ci, hc, hl, hik, dcl]
        refine callK_q annulusref4_Add.call (A0) rfl rfl ?_
        simp -implicitDefEqProofs only [go_sem, Nat.reduceAdd, Nat.reduceEqDiff, Nat.reduceLT, reduceIte, reduceCtorEq, Int.reduceLE, Int.reduceLT, Int.reduceEq, Int.reduceAdd, Int.reduceMul, Int.reduceSub, Nat.reduceMul, Nat.reduceSub, Nat.reducePow, Nat.reduceLeDiff, Int.reduceToNat, DD, k0, k1, k2, k7, k8, k9, c3, c4, c5, c6, ci, hc, hl, hik, dcl]
        exact ⟨d - (i + 1), by omega, _, _, _, i + 1, rfl, rfl, by omega, by simp [x_look, k0], by simp [x_look, k1], by simp [x_look, k2], by simp [x_look, k7], by simp [x_look, k8], by simp [x_look], .inr ⟨rfl, rfl⟩⟩
set_option maxHeartbeats 1000000 in
theorem rany_s (hf : PB f 296) (hd : d ≤ 1000) (p : Int) (hp : heldP p ≤ 400) :
    (∀ j, j < d → (∀ i, i < j → ¬ tYes f d i (heldP p)) → tYes f d j (heldP p) → Sat CT false 9 [PA d f, I64 p] (.tup [I64 (j : Nat), Bo true])) ∧
    ((∀ i, i < d → ¬ tYes f d i (heldP p)) → Sat CT false 9 [PA d f, I64 p] (.tup [I64 (-1), Bo false])) := by
  have DD := annulusref11_Any.dr
  simp only [drP, drPx, drPt, drR, drS, drT, bodyOf, Tryz.f9, Nat.reduceEqDiff, reduceIte, true_and, and_true] at DD
  have hP : PA d f = .sl d (pcl d f) := rfl
  constructor
  · intro j hj hno hyes
    refine sat_of annulusref11_Any.ok (by simp) ?_
    simp -implicitDefEqProofs only [go_sem, Nat.reduceAdd, Nat.reduceEqDiff, Nat.reduceLT, reduceIte, reduceCtorEq, Int.reduceLE, Int.reduceLT, Int.reduceEq, Int.reduceAdd, Int.reduceMul, Int.reduceSub, Nat.reduceMul, Nat.reduceSub, Nat.reducePow, Nat.reduceLeDiff, Int.reduceToNat, Tryz.f9, DD, hP]
    refine loop_of aW0_mono (fun q σ => ∃ sl i, σ = ⟨sl, []⟩ ∧ q = d - i ∧ i ≤ j ∧ look sl 0 = .sl d (pcl d f) ∧ look sl 1 = I64 p ∧ look sl 6 = I64 (i : Nat)) ?_ (n := d)
      ⟨_, 0, rfl, rfl, Nat.zero_le _, by simp [x_look], by simp [x_look], by simp [x_look]⟩
    rintro q _ ⟨sl, i, rfl, rfl, hi, k0, k1, k6⟩
    have c6 : (i : Int) < (d : Int) := by omega
    have c3 : (0 : Int) ≤ (i : Int) := by omega
    have ci : IntKind.i64.wrap ((i : Int) + 1) = ((i + 1 : Nat) : Int) := by rw [wrap_id (by omega)]; omega
    obtain ⟨u, hu⟩ := TV_ex f d i (heldP p)
    have t := rtest_in hf hd i (by omega) p hp u hu
    by_cases hij : i = j
    · subst hij
      have cu : u = 1 := (TV_one hu).2 hyes
      subst cu
      simp -implicitDefEqProofs only [go_sem, Nat.reduceAdd, Nat.reduceEqDiff, Nat.reduceLT, reduceIte, reduceCtorEq, Int.reduceLE, Int.reduceLT, Int.reduceEq, Int.reduceAdd, Int.reduceMul, Int.reduceSub, Nat.reduceMul, Nat.reduceSub, Nat.reducePow, Nat.reduceLeDiff, Int.reduceToNat, DD, k0, k1, k6, c6, c3, ci]
      refine callK_pl annulusref11_Test.call (t) (pl3 (pld_PA _ _) pld_int pld_int) ?_
      simp -implicitDefEqProofs only [go_sem, Nat.reduceAdd, Nat.reduceEqDiff, Nat.reduceLT, reduceIte, reduceCtorEq, Int.reduceLE, Int.reduceLT, Int.reduceEq, Int.reduceAdd, Int.reduceMul, Int.reduceSub, Nat.reduceMul, Nat.reduceSub, Nat.reducePow, Nat.reduceLeDiff, Int.reduceToNat, DD, k0, k1, k6, c6, c3, ci]
    · have cu : ¬ u = 1 := fun e => hno i (by omega) ((TV_one hu).1 e)
      simp -implicitDefEqProofs only [go_sem, Nat.reduceAdd, Nat.reduceEqDiff, Nat.reduceLT, reduceIte, reduceCtorEq, Int.reduceLE, Int.reduceLT, Int.reduceEq, Int.reduceAdd, Int.reduceMul, Int.reduceSub, Nat.reduceMul, Nat.reduceSub, Nat.reducePow, Nat.reduceLeDiff, Int.reduceToNat, DD, k0, k1, k6, c6, c3, ci, cu]
      refine callK_pl annulusref11_Test.call (t) (pl3 (pld_PA _ _) pld_int pld_int) ?_
      simp -implicitDefEqProofs only [go_sem, Nat.reduceAdd, Nat.reduceEqDiff, Nat.reduceLT, reduceIte, reduceCtorEq, Int.reduceLE, Int.reduceLT, Int.reduceEq, Int.reduceAdd, Int.reduceMul, Int.reduceSub, Nat.reduceMul, Nat.reduceSub, Nat.reducePow, Nat.reduceLeDiff, Int.reduceToNat, DD, k0, k1, k6, c6, c3, ci, cu]
      exact ⟨d - (i + 1), by omega, _, i + 1, rfl, rfl, by omega, by simp [x_look, k0], by simp [x_look, k1], by simp [x_look]⟩
  · intro hno
    refine sat_of annulusref11_Any.ok (by simp) ?_
    simp -implicitDefEqProofs only [go_sem, Nat.reduceAdd, Nat.reduceEqDiff, Nat.reduceLT, reduceIte, reduceCtorEq, Int.reduceLE, Int.reduceLT, Int.reduceEq, Int.reduceAdd, Int.reduceMul, Int.reduceSub, Nat.reduceMul, Nat.reduceSub, Nat.reducePow, Nat.reduceLeDiff, Int.reduceToNat, Tryz.f9, DD, hP]
    refine loop_of aW0_mono (fun q σ => ∃ sl i, σ = ⟨sl, []⟩ ∧ q = d - i ∧ i ≤ d ∧ look sl 0 = .sl d (pcl d f) ∧ look sl 1 = I64 p ∧ look sl 6 = I64 (i : Nat)) ?_ (n := d)
      ⟨_, 0, rfl, rfl, Nat.zero_le _, by simp [x_look], by simp [x_look], by simp [x_look]⟩
    rintro q _ ⟨sl, i, rfl, rfl, hi, k0, k1, k6⟩
    by_cases hid : i = d
    · subst hid
      simp -implicitDefEqProofs only [go_sem, Nat.reduceAdd, Nat.reduceEqDiff, Nat.reduceLT, reduceIte, reduceCtorEq, Int.reduceLE, Int.reduceLT, Int.reduceEq, Int.reduceAdd, Int.reduceMul, Int.reduceSub, Nat.reduceMul, Nat.reduceSub, Nat.reducePow, Nat.reduceLeDiff, Int.reduceToNat, DD, k0, k1, k6, Int.lt_irrefl]
    · have c6 : (i : Int) < (d : Int) := by omega
      have c3 : (0 : Int) ≤ (i : Int) := by omega
      have ci : IntKind.i64.wrap ((i : Int) + 1) = ((i + 1 : Nat) : Int) := by rw [wrap_id (by omega)]; omega
      obtain ⟨u, hu⟩ := TV_ex f d i (heldP p)
      have t := rtest_in hf hd i (by omega) p hp u hu
      have cu : ¬ u = 1 := fun e => hno i (by omega) ((TV_one hu).1 e)
      simp -implicitDefEqProofs only [go_sem, Nat.reduceAdd, Nat.reduceEqDiff, Nat.reduceLT, reduceIte, reduceCtorEq, Int.reduceLE, Int.reduceLT, Int.reduceEq, Int.reduceAdd, Int.reduceMul, Int.reduceSub, Nat.reduceMul, Nat.reduceSub, Nat.reducePow, Nat.reduceLeDiff, Int.reduceToNat, DD, k0, k1, k6, c6, c3, ci, cu]
      refine callK_pl annulusref11_Test.call (t) (pl3 (pld_PA _ _) pld_int pld_int) ?_
      simp -implicitDefEqProofs only [go_sem, Nat.reduceAdd, Nat.reduceEqDiff, Nat.reduceLT, reduceIte, reduceCtorEq, Int.reduceLE, Int.reduceLT, Int.reduceEq, Int.reduceAdd, Int.reduceMul, Int.reduceSub, Nat.reduceMul, Nat.reduceSub, Nat.reducePow, Nat.reduceLeDiff, Int.reduceToNat, DD, k0, k1, k6, c6, c3, ci, cu]
      exact ⟨d - (i + 1), by omega, _, i + 1, rfl, rfl, by omega, by simp [x_look, k0], by simp [x_look, k1], by simp [x_look]⟩
/-- both tests tell the same, whatever the place -/
theorem test_both (h : RP cs n f 296) (hcs : ∀ c ∈ cs, IsD c) (hn : n ≤ 1000) (k p : Int) (hp : heldP p ≤ 400) :
    ∃ u : Int, Sat CT false 11 [.sl n cs, I64 k, I64 p] (I64 u) ∧ Sat CT false 12 [PA (dg n f) f, I64 k, I64 p] (I64 u) := by
  have hd := dg_le n f
  by_cases hk : k < 0 ∨ (dg n f : Nat) ≤ k
  · exact ⟨0, test_out h hcs k p hk, rtest_out k p hk⟩
  · obtain ⟨κ, rfl⟩ : ∃ κ : Nat, k = κ := ⟨k.toNat, by omega⟩
    have hκ : κ < dg n f := by omega
    obtain ⟨u, hu⟩ := TV_ex f (dg n f) κ (heldP p)
    obtain ⟨p1, p2, p3⟩ := test_in h hcs hn κ hκ p hp
    refine ⟨u, ?_, rtest_in h.pb (by omega) κ hκ p hp u hu⟩
    rcases hu with ⟨rfl, g1⟩ | ⟨rfl, g1, g2⟩ | ⟨rfl, g1, g2⟩
    · exact p1 g1
    · exact p2 g1 g2
    · exact p3 g1 g2
theorem any_both (h : RP cs n f 296) (hcs : ∀ c ∈ cs, IsD c) (hn : n ≤ 1000) (p : Int) (hp : heldP p ≤ 400) :
    ∃ (x : Int) (ok : Bool), Sat CT false 8 [.sl n cs, I64 p] (.tup [I64 x, Bo ok]) ∧ Sat CT false 9 [PA (dg n f) f, I64 p] (.tup [I64 x, Bo ok]) := by
  have hd := dg_le n f
  obtain ⟨a1, a2⟩ := any_s h hcs hn p hp
  obtain ⟨r1, r2⟩ := rany_s (d := dg n f) h.pb (by omega) p hp
  rcases first_of (p := fun i => tYes f (dg n f) i (heldP p)) (dg n f) with ⟨j, h1, h2, h3⟩ | h0
  · exact ⟨j, true, a1 j h1 (fun i hi g => h2 i hi ((aYes_iff (by omega)).1 g)) ((aYes_iff h1).2 h3), r1 j h1 h2 h3⟩
  · exact ⟨-1, false, a2 (fun i hi g => h0 i hi ((aYes_iff hi).1 g)), r2 h0⟩
theorem held_min1 (p : Int) : heldP (min p 100) ≤ 400 := by unfold heldP; omega
set_option maxRecDepth 100000 in
set_option maxHeartbeats 4000000 in
theorem pelletTells_sat (F : Nat → Raw) (hF : ∀ i, (F i).ok) (hn : n ≤ 9223372036854775807) (k p m : Int) : Sat CT false 3 [.sl n (qcl n F), I64 k, I64 p, I64 m] (Bo true) := by
  refine sat_of annuluslaw14_PelletTells.ok (by simp) ?_
  have DD := annuluslaw14_PelletTells.dr
  simp only [drP, drPx, drPt, drR, drS, drT, bodyOf, Tryz.f3, Nat.reduceEqDiff, reduceIte, true_and, and_true] at DD
  have kn := known14_s
  have fw := few14_s F hn
  by_cases hf : (∀ i, i < n → (F i).sm) ∧ n ≤ 14
  · rw [decide_eq_true hf] at fw
    by_cases hp : 100 < p ∧ p ≤ 4000
    · obtain ⟨p1, p2⟩ := hp
      simp -implicitDefEqProofs only [go_sem, Nat.reduceAdd, Nat.reduceEqDiff, Nat.reduceLT, reduceIte, reduceCtorEq, Int.reduceLE, Int.reduceLT, Int.reduceEq, Int.reduceAdd, Int.reduceMul, Int.reduceSub, Nat.reduceMul, Nat.reduceSub, Nat.reducePow, Nat.reduceLeDiff, Int.reduceToNat, Tryz.f3, DD, p1, p2, gt_iff_lt]
      refine callK_q annuluslaw14_known.call (kn) rfl rfl ?_
      simp -implicitDefEqProofs only [go_sem, Nat.reduceAdd, Nat.reduceEqDiff, Nat.reduceLT, reduceIte, reduceCtorEq, Int.reduceLE, Int.reduceLT, Int.reduceEq, Int.reduceAdd, Int.reduceMul, Int.reduceSub, Nat.reduceMul, Nat.reduceSub, Nat.reducePow, Nat.reduceLeDiff, Int.reduceToNat, DD, p1, p2, gt_iff_lt]
      refine callK_pl annuluslaw14_few.call (fw) (pl1 (pld_q n F)) ?_
      simp -implicitDefEqProofs only [go_sem, Nat.reduceAdd, Nat.reduceEqDiff, Nat.reduceLT, reduceIte, reduceCtorEq, Int.reduceLE, Int.reduceLT, Int.reduceEq, Int.reduceAdd, Int.reduceMul, Int.reduceSub, Nat.reduceMul, Nat.reduceSub, Nat.reducePow, Nat.reduceLeDiff, Int.reduceToNat, DD, p1, p2, gt_iff_lt]
    · have pz : (¬ 100 < p ∧ True) ∨ (100 < p ∧ ¬ p ≤ 4000) := by
        by_cases g : 100 < p
        · exact .inr ⟨g, fun q => hp ⟨g, q⟩⟩
        · exact .inl ⟨g, trivial⟩
      have hh := held_min1 p
      obtain ⟨b, hb⟩ : ∃ b, min p 100 = b := ⟨_, rfl⟩
      rw [hb] at hh
      have rq := RP_q (n := n) (fun i _ => hF i) hf.1 (by omega)
      have q := rtrim_s rq (by decide)
      obtain ⟨u, t1, t2⟩ := test_both rq (isD_qcl n F) (by omega) k b hh
      obtain ⟨x, ok, a1, a2⟩ := any_both rq (isD_qcl n F) (by omega) b hh
      have hP1 := (heldP_v b).2.2.1
      have hPA : PA (dg n (qpo n F)) (qpo n F) = .sl (dg n (qpo n F)) (pcl (dg n (qpo n F)) (qpo n F)) := rfl
      by_cases hn0 : n = 0
      · subst hn0
        have f1 := far_s (RC_C (CB.zero 296)) (by decide) b m
        have f2 := rfar_s (CB.zero 296) b m hh
        have db := far_db (CB.zero 296) hP1 hh (decide (m = 1))
        have e1 := requal4d db db (by decide) (by decide)
        rw [decide_eq_true rfl] at e1
        generalize far zero (heldP b) (decide (m = 1)) = dz at *
        rw [CI_0] at f1 f2
        have z0 : (((0 : Nat) : Int)) = 0 := rfl
        rcases pz with ⟨pz, pz2⟩ | ⟨pz, pz2⟩ <;>
          (skip
           simp -implicitDefEqProofs only [go_sem, Nat.reduceAdd, Nat.reduceEqDiff, Nat.reduceLT, reduceIte, reduceCtorEq, Int.reduceLE, Int.reduceLT, Int.reduceEq, Int.reduceAdd, Int.reduceMul, Int.reduceSub, Nat.reduceMul, Nat.reduceSub, Nat.reducePow, Nat.reduceLeDiff, Int.reduceToNat, Tryz.f3, DD, pz, pz2, hb, gt_iff_lt]
           refine callK_q annuluslaw14_known.call (kn) rfl rfl ?_
           simp -implicitDefEqProofs only [go_sem, Nat.reduceAdd, Nat.reduceEqDiff, Nat.reduceLT, reduceIte, reduceCtorEq, Int.reduceLE, Int.reduceLT, Int.reduceEq, Int.reduceAdd, Int.reduceMul, Int.reduceSub, Nat.reduceMul, Nat.reduceSub, Nat.reducePow, Nat.reduceLeDiff, Int.reduceToNat, DD, pz, pz2, hb, gt_iff_lt]
           refine callK_pl annuluslaw14_few.call (fw) (pl1 (pld_q 0 F)) ?_
           simp -implicitDefEqProofs only [go_sem, Nat.reduceAdd, Nat.reduceEqDiff, Nat.reduceLT, reduceIte, reduceCtorEq, Int.reduceLE, Int.reduceLT, Int.reduceEq, Int.reduceAdd, Int.reduceMul, Int.reduceSub, Nat.reduceMul, Nat.reduceSub, Nat.reducePow, Nat.reduceLeDiff, Int.reduceToNat, DD, pz, pz2, hb, gt_iff_lt]
           refine callK_pl annulusref11_Trim.call (q) (pl1 (pld_q 0 F)) ?_
           simp -implicitDefEqProofs only [go_sem, Nat.reduceAdd, Nat.reduceEqDiff, Nat.reduceLT, reduceIte, reduceCtorEq, Int.reduceLE, Int.reduceLT, Int.reduceEq, Int.reduceAdd, Int.reduceMul, Int.reduceSub, Nat.reduceMul, Nat.reduceSub, Nat.reducePow, Nat.reduceLeDiff, Int.reduceToNat, DD, pz, pz2, hb, gt_iff_lt]
           refine callK_pl pellet_Any.call (a1) (pl2 (pld_q 0 F) pld_int) ?_
           simp -implicitDefEqProofs only [go_sem, Nat.reduceAdd, Nat.reduceEqDiff, Nat.reduceLT, reduceIte, reduceCtorEq, Int.reduceLE, Int.reduceLT, Int.reduceEq, Int.reduceAdd, Int.reduceMul, Int.reduceSub, Nat.reduceMul, Nat.reduceSub, Nat.reducePow, Nat.reduceLeDiff, Int.reduceToNat, DD, pz, pz2, hb, gt_iff_lt]
           refine callK_pl annulusref11_Any.call (a2) (pl2 (pld_PA _ _) pld_int) ?_
           simp -implicitDefEqProofs only [go_sem, Nat.reduceAdd, Nat.reduceEqDiff, Nat.reduceLT, reduceIte, reduceCtorEq, Int.reduceLE, Int.reduceLT, Int.reduceEq, Int.reduceAdd, Int.reduceMul, Int.reduceSub, Nat.reduceMul, Nat.reduceSub, Nat.reducePow, Nat.reduceLeDiff, Int.reduceToNat, DD, pz, pz2, hb, gt_iff_lt, Int.lt_irrefl, z0]
           refine callK_pl pellet_Test.call (t1) (pl3 (pld_q 0 F) pld_int pld_int) ?_
           simp -implicitDefEqProofs only [go_sem, Nat.reduceAdd, Nat.reduceEqDiff, Nat.reduceLT, reduceIte, reduceCtorEq, Int.reduceLE, Int.reduceLT, Int.reduceEq, Int.reduceAdd, Int.reduceMul, Int.reduceSub, Nat.reduceMul, Nat.reduceSub, Nat.reducePow, Nat.reduceLeDiff, Int.reduceToNat, DD, pz, pz2, hb, gt_iff_lt]
           refine callK_pl annulusref11_Test.call (t2) (pl3 (pld_PA _ _) pld_int pld_int) ?_
           simp -implicitDefEqProofs only [go_sem, Nat.reduceAdd, Nat.reduceEqDiff, Nat.reduceLT, reduceIte, reduceCtorEq, Int.reduceLE, Int.reduceLT, Int.reduceEq, Int.reduceAdd, Int.reduceMul, Int.reduceSub, Nat.reduceMul, Nat.reduceSub, Nat.reducePow, Nat.reduceLeDiff, Int.reduceToNat, DD, pz, pz2, hb, gt_iff_lt]
           refine callK_q pellet_Far.call (f1) rfl rfl ?_
           simp -implicitDefEqProofs only [go_sem, Nat.reduceAdd, Nat.reduceEqDiff, Nat.reduceLT, reduceIte, reduceCtorEq, Int.reduceLE, Int.reduceLT, Int.reduceEq, Int.reduceAdd, Int.reduceMul, Int.reduceSub, Nat.reduceMul, Nat.reduceSub, Nat.reducePow, Nat.reduceLeDiff, Int.reduceToNat, DD, pz, pz2, hb, gt_iff_lt]
           refine callK_q annulusref8_Far.call (f2) rfl rfl ?_
           simp -implicitDefEqProofs only [go_sem, Nat.reduceAdd, Nat.reduceEqDiff, Nat.reduceLT, reduceIte, reduceCtorEq, Int.reduceLE, Int.reduceLT, Int.reduceEq, Int.reduceAdd, Int.reduceMul, Int.reduceSub, Nat.reduceMul, Nat.reduceSub, Nat.reducePow, Nat.reduceLeDiff, Int.reduceToNat, DD, pz, pz2, hb, gt_iff_lt]
           refine callK_q annulusref4_Equal.call (e1) rfl rfl ?_
           simp -implicitDefEqProofs only [go_sem, Nat.reduceAdd, Nat.reduceEqDiff, Nat.reduceLT, reduceIte, reduceCtorEq, Int.reduceLE, Int.reduceLT, Int.reduceEq, Int.reduceAdd, Int.reduceMul, Int.reduceSub, Nat.reduceMul, Nat.reduceSub, Nat.reducePow, Nat.reduceLeDiff, Int.reduceToNat, DD, pz, pz2, hb, gt_iff_lt])
      · have c1 : (0 : Int) < (n : Int) := by omega
        have cz : CB (F 0).z 296 := (Raw.rc (hF 0) (hf.1 0 (by omega))).cb
        have rc := rcplx_r (Raw.rc (hF 0) (hf.1 0 (by omega))) (by decide)
        have hc := qcl_el F (show 0 < n by omega)
        rw [Nat.zero_mul, List.drop_zero] at hc
        have hl := qcl_len n F
        have c4 : 0 < (qcl n F).length := by omega
        have c5 : 6 ≤ (qcl n F).length := by omega
        have f1 := far_s (RC_C cz) (by decide) b m
        have f2 := rfar_s cz b m hh
        have db := far_db cz hP1 hh (decide (m = 1))
        have e1 := requal4d db db (by decide) (by decide)
        rw [decide_eq_true rfl] at e1
        generalize far (F 0).z (heldP b) (decide (m = 1)) = dz at *
        rcases pz with ⟨pz, pz2⟩ | ⟨pz, pz2⟩ <;>
          (skip
           simp -implicitDefEqProofs only [go_sem, Nat.reduceAdd, Nat.reduceEqDiff, Nat.reduceLT, reduceIte, reduceCtorEq, Int.reduceLE, Int.reduceLT, Int.reduceEq, Int.reduceAdd, Int.reduceMul, Int.reduceSub, Nat.reduceMul, Nat.reduceSub, Nat.reducePow, Nat.reduceLeDiff, Int.reduceToNat, Tryz.f3, DD, pz, pz2, hb, c1, c4, c5, hc, gt_iff_lt]
           refine callK_q annuluslaw14_known.call (kn) rfl rfl ?_
           simp -implicitDefEqProofs only [go_sem, Nat.reduceAdd, Nat.reduceEqDiff, Nat.reduceLT, reduceIte, reduceCtorEq, Int.reduceLE, Int.reduceLT, Int.reduceEq, Int.reduceAdd, Int.reduceMul, Int.reduceSub, Nat.reduceMul, Nat.reduceSub, Nat.reducePow, Nat.reduceLeDiff, Int.reduceToNat, DD, pz, pz2, hb, c1, c4, c5, hc, gt_iff_lt]
           refine callK_pl annuluslaw14_few.call (fw) (pl1 (pld_q n F)) ?_
           simp -implicitDefEqProofs only [go_sem, Nat.reduceAdd, Nat.reduceEqDiff, Nat.reduceLT, reduceIte, reduceCtorEq, Int.reduceLE, Int.reduceLT, Int.reduceEq, Int.reduceAdd, Int.reduceMul, Int.reduceSub, Nat.reduceMul, Nat.reduceSub, Nat.reducePow, Nat.reduceLeDiff, Int.reduceToNat, DD, pz, pz2, hb, c1, c4, c5, hc, gt_iff_lt]
           refine callK_pl annulusref11_Trim.call (q) (pl1 (pld_q n F)) ?_
           simp -implicitDefEqProofs only [go_sem, Nat.reduceAdd, Nat.reduceEqDiff, Nat.reduceLT, reduceIte, reduceCtorEq, Int.reduceLE, Int.reduceLT, Int.reduceEq, Int.reduceAdd, Int.reduceMul, Int.reduceSub, Nat.reduceMul, Nat.reduceSub, Nat.reducePow, Nat.reduceLeDiff, Int.reduceToNat, DD, pz, pz2, hb, c1, c4, c5, hc, gt_iff_lt]
           refine callK_pl pellet_Any.call (a1) (pl2 (pld_q n F) pld_int) ?_
           simp -implicitDefEqProofs only [go_sem, Nat.reduceAdd, Nat.reduceEqDiff, Nat.reduceLT, reduceIte, reduceCtorEq, Int.reduceLE, Int.reduceLT, Int.reduceEq, Int.reduceAdd, Int.reduceMul, Int.reduceSub, Nat.reduceMul, Nat.reduceSub, Nat.reducePow, Nat.reduceLeDiff, Int.reduceToNat, DD, pz, pz2, hb, c1, c4, c5, hc, gt_iff_lt]
           refine callK_pl annulusref11_Any.call (a2) (pl2 (pld_PA _ _) pld_int) ?_
           simp -implicitDefEqProofs only [go_sem, Nat.reduceAdd, Nat.reduceEqDiff, Nat.reduceLT, reduceIte, reduceCtorEq, Int.reduceLE, Int.reduceLT, Int.reduceEq, Int.reduceAdd, Int.reduceMul, Int.reduceSub, Nat.reduceMul, Nat.reduceSub, Nat.reducePow, Nat.reduceLeDiff, Int.reduceToNat, DD, pz, pz2, hb, c1, c4, c5, hc, gt_iff_lt]
           refine callK_pl annulusref8_Cplx.call (rc) (pl1 (pld_agg lf_raw)) ?_
           simp -implicitDefEqProofs only [go_sem, Nat.reduceAdd, Nat.reduceEqDiff, Nat.reduceLT, reduceIte, reduceCtorEq, Int.reduceLE, Int.reduceLT, Int.reduceEq, Int.reduceAdd, Int.reduceMul, Int.reduceSub, Nat.reduceMul, Nat.reduceSub, Nat.reducePow, Nat.reduceLeDiff, Int.reduceToNat, DD, pz, pz2, hb, c1, c4, c5, hc, gt_iff_lt]
           refine callK_pl pellet_Test.call (t1) (pl3 (pld_q n F) pld_int pld_int) ?_
           simp -implicitDefEqProofs only [go_sem, Nat.reduceAdd, Nat.reduceEqDiff, Nat.reduceLT, reduceIte, reduceCtorEq, Int.reduceLE, Int.reduceLT, Int.reduceEq, Int.reduceAdd, Int.reduceMul, Int.reduceSub, Nat.reduceMul, Nat.reduceSub, Nat.reducePow, Nat.reduceLeDiff, Int.reduceToNat, DD, pz, pz2, hb, c1, c4, c5, hc, gt_iff_lt]
           refine callK_pl annulusref11_Test.call (t2) (pl3 (pld_PA _ _) pld_int pld_int) ?_
           simp -implicitDefEqProofs only [go_sem, Nat.reduceAdd, Nat.reduceEqDiff, Nat.reduceLT, reduceIte, reduceCtorEq, Int.reduceLE, Int.reduceLT, Int.reduceEq, Int.reduceAdd, Int.reduceMul, Int.reduceSub, Nat.reduceMul, Nat.reduceSub, Nat.reducePow, Nat.reduceLeDiff, Int.reduceToNat, DD, pz, pz2, hb, c1, c4, c5, hc, gt_iff_lt]
           refine callK_pl pellet_Far.call (f1) (pl3 (pld_CI (F 0).z) pld_int pld_int) ?_
           simp -implicitDefEqProofs only [go_sem, Nat.reduceAdd, Nat.reduceEqDiff, Nat.reduceLT, reduceIte, reduceCtorEq, Int.reduceLE, Int.reduceLT, Int.reduceEq, Int.reduceAdd, Int.reduceMul, Int.reduceSub, Nat.reduceMul, Nat.reduceSub, Nat.reducePow, Nat.reduceLeDiff, Int.reduceToNat, DD, pz, pz2, hb, c1, c4, c5, hc, gt_iff_lt]
           refine callK_pl annulusref8_Far.call (f2) (pl3 (pld_CI (F 0).z) pld_int pld_int) ?_
           simp -implicitDefEqProofs only [go_sem, Nat.reduceAdd, Nat.reduceEqDiff, Nat.reduceLT, reduceIte, reduceCtorEq, Int.reduceLE, Int.reduceLT, Int.reduceEq, Int.reduceAdd, Int.reduceMul, Int.reduceSub, Nat.reduceMul, Nat.reduceSub, Nat.reducePow, Nat.reduceLeDiff, Int.reduceToNat, DD, pz, pz2, hb, c1, c4, c5, hc, gt_iff_lt]
           refine callK_q annulusref4_Equal.call (e1) rfl rfl ?_
           simp -implicitDefEqProofs only [go_sem, Nat.reduceAdd, Nat.reduceEqDiff, Nat.reduceLT, reduceIte, reduceCtorEq, Int.reduceLE, Int.reduceLT, Int.reduceEq, Int.reduceAdd, Int.reduceMul, Int.reduceSub, Nat.reduceMul, Nat.reduceSub, Nat.reducePow, Nat.reduceLeDiff, Int.reduceToNat, DD, pz, pz2, hb, c1, c4, c5, hc, gt_iff_lt])
  · rw [decide_eq_false hf] at fw
    simp -implicitDefEqProofs only [go_sem, Nat.reduceAdd, Nat.reduceEqDiff, Nat.reduceLT, reduceIte, reduceCtorEq, Int.reduceLE, Int.reduceLT, Int.reduceEq, Int.reduceAdd, Int.reduceMul, Int.reduceSub, Nat.reduceMul, Nat.reduceSub, Nat.reducePow, Nat.reduceLeDiff, Int.reduceToNat, Tryz.f3, DD]
    refine callK_q annuluslaw14_known.call (kn) rfl rfl ?_
    simp -implicitDefEqProofs only [go_sem, Nat.reduceAdd, Nat.reduceEqDiff, Nat.reduceLT, reduceIte, reduceCtorEq, Int.reduceLE, Int.reduceLT, Int.reduceEq, Int.reduceAdd, Int.reduceMul, Int.reduceSub, Nat.reduceMul, Nat.reduceSub, Nat.reducePow, Nat.reduceLeDiff, Int.reduceToNat, DD]
    refine callK_pl annuluslaw14_few.call (fw) (pl1 (pld_q n F)) ?_
    simp -implicitDefEqProofs only [go_sem, Nat.reduceAdd, Nat.reduceEqDiff, Nat.reduceLT, reduceIte, reduceCtorEq, Int.reduceLE, Int.reduceLT, Int.reduceEq, Int.reduceAdd, Int.reduceMul, Int.reduceSub, Nat.reduceMul, Nat.reduceSub, Nat.reducePow, Nat.reduceLeDiff, Int.reduceToNat, DD]
end Go.Ab
