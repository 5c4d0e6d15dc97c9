/- Contracts of this seat's functions (of each call: what it answers), walked over the abstract machine, and the laws of numbers that they want. Conditions: those that each theorem states. -/
import Derived.Test.YtdkdpebfnddfpaaDoorRC
set_option linter.unusedVariables false
set_option maxRecDepth 20000
set_option linter.unusedSimpArgs false
set_option linter.unusedSectionVars false
namespace Go.Ab
open Go.Proofs
open Cx (zero one)
attribute [-go_sem] appF newsF
variable {a b : AV} {z w : Cx} {B C n m : Nat} {cs ds : List AV} {f g : Po}

/-- the norm -/
def nrm (z : Cx) : Dyadic := z.re * z.re + z.im * z.im
/-- how far a point is -/
def far (z : Cx) (P : Nat) (up : Bool) : Dyadic := droot (nrm z) P up
/-- how far all but one are -/
def osum (f : Po) (k : Int) (P : Nat) (up : Bool) : Nat → Dyadic
  | 0 => 0
  | i + 1 => if (i : Int) = k then osum f k P up i else osum f k P up i + far (f i) P up
theorem nrm_db (h : CB z B) : DB (nrm z) (B + B + 1) := (h.1.mul h.1).add (h.2.mul h.2)
theorem droot_0 {x : Dyadic} (h : dnum x ≤ 0) (P : Nat) (up : Bool) : droot x P up = 0 := if_pos h
theorem far_db (h : CB z 296) {P : Nat} (hP1 : 1 ≤ P) (hP : P ≤ 400) (up : Bool) : DB (far z P up) 8201 := by
  unfold far
  have hn := nrm_db h
  by_cases q : dnum (nrm z) ≤ 0
  · rw [droot_0 q]; exact DB.zero _
  · exact droot_db (Int.not_le.1 q) (Nat.le_trans (bl_B hn) (by decide)) (Nat.le_trans hn.num.2 (by decide)) hP1 hP up
theorem osum_db (h : PB f 296) (k : Int) {P : Nat} (hP1 : 1 ≤ P) (hP : P ≤ 400) (up : Bool) : ∀ i, DB (osum f k P up i) (8201 + i)
  | 0 => DB.zero _
  | i + 1 => by
    have ih := osum_db h k hP1 hP up i
    unfold osum
    split
    · exact ih.mono (by omega)
    · exact ih.add ((far_db (h i) hP1 hP up).mono (by omega))
theorem gnorm_r (hz : RC a z B) (hB : B ≤ 9000) : Sat CT false 81 [a] (DI (nrm z)) := by
  refine sat_of gauss_Norm.ok (by simp) ?_
  have DD := gauss_Norm.dr
  simp only [drP, drPx, drPt, drR, drS, drT, bodyOf, Tryd.f81, Nat.reduceEqDiff, reduceIte, true_and, and_true] at DD
  unfold nrm
  obtain ⟨n, l, e, m, k, g, rfl, h1, h2⟩ := hz
  have u1 := dmul_r h1 h1 (by omega) (by omega)
  have u2 := dmul_r h2 h2 (by omega) (by omega)
  have u3 := dadd_r (RD_D (h1.db.mul h1.db)) (RD_D (h2.db.mul h2.db)) (by omega) (by omega)
  simp -implicitDefEqProofs only [go_sem, Nat.reduceAdd, Nat.reduceEqDiff, Nat.reduceLT, reduceIte, reduceCtorEq, Int.reduceLE, Int.reduceLT, Int.reduceEq, Int.reduceAdd, Int.reduceMul, Int.reduceSub, Nat.reduceMul, Nat.reduceSub, Nat.reducePow, Nat.reduceLeDiff, Int.reduceToNat, Tryd.f81, DD]
  refine callK_q dyad_Mul.call (u1) rfl rfl ?_
  simp -implicitDefEqProofs only [go_sem, Nat.reduceAdd, Nat.reduceEqDiff, Nat.reduceLT, reduceIte, reduceCtorEq, Int.reduceLE, Int.reduceLT, Int.reduceEq, Int.reduceAdd, Int.reduceMul, Int.reduceSub, Nat.reduceMul, Nat.reduceSub, Nat.reducePow, Nat.reduceLeDiff, Int.reduceToNat, DD]
  refine callK_q dyad_Mul.call (u2) rfl rfl ?_
  simp -implicitDefEqProofs only [go_sem, Nat.reduceAdd, Nat.reduceEqDiff, Nat.reduceLT, reduceIte, reduceCtorEq, Int.reduceLE, Int.reduceLT, Int.reduceEq, Int.reduceAdd, Int.reduceMul, Int.reduceSub, Nat.reduceMul, Nat.reduceSub, Nat.reducePow, Nat.reduceLeDiff, Int.reduceToNat, DD]
  refine callK_q dyad_Add.call (u3) rfl rfl ?_
  simp -implicitDefEqProofs only [go_sem, Nat.reduceAdd, Nat.reduceEqDiff, Nat.reduceLT, reduceIte, reduceCtorEq, Int.reduceLE, Int.reduceLT, Int.reduceEq, Int.reduceAdd, Int.reduceMul, Int.reduceSub, Nat.reduceMul, Nat.reduceSub, Nat.reducePow, Nat.reduceLeDiff, Int.reduceToNat, DD]
theorem far_s (hz : RC a z B) (hB : B ≤ 640) (p m : Int) : Sat CT false 36 [a, I64 p, I64 m] (DI (far z (heldP p) (decide (m = 1)))) := by
  refine sat_of pellet_Far.ok (by simp) ?_
  have DD := pellet_Far.dr
  simp only [drP, drPx, drPt, drR, drS, drT, bodyOf, Tryd.f36, Nat.reduceEqDiff, reduceIte, true_and, and_true] at DD
  have g1 := gnorm_r hz (by omega)
  have hn := (nrm_db hz.cb).mono (C := 5000) (by omega)
  obtain ⟨n, l, e, m', k, g, rfl, h1, h2⟩ := hz
  by_cases q : dnum (nrm z) ≤ 0
  · have r1 := qroot_n (RD_D hn) q (by decide) p m
    rw [show far z (heldP p) (decide (m = 1)) = 0 from droot_0 q _ _, DI_0]
    simp -implicitDefEqProofs only [go_sem, Nat.reduceAdd, Nat.reduceEqDiff, Nat.reduceLT, reduceIte, reduceCtorEq, Int.reduceLE, Int.reduceLT, Int.reduceEq, Int.reduceAdd, Int.reduceMul, Int.reduceSub, Nat.reduceMul, Nat.reduceSub, Nat.reducePow, Nat.reduceLeDiff, Int.reduceToNat, Tryd.f36, DD]
    refine callK_q gauss_Norm.call (g1) rfl rfl ?_
    simp -implicitDefEqProofs only [go_sem, Nat.reduceAdd, Nat.reduceEqDiff, Nat.reduceLT, reduceIte, reduceCtorEq, Int.reduceLE, Int.reduceLT, Int.reduceEq, Int.reduceAdd, Int.reduceMul, Int.reduceSub, Nat.reduceMul, Nat.reduceSub, Nat.reducePow, Nat.reduceLeDiff, Int.reduceToNat, DD]
    refine callK_q quot_Root.call (r1) rfl rfl ?_
    simp -implicitDefEqProofs only [go_sem, Nat.reduceAdd, Nat.reduceEqDiff, Nat.reduceLT, reduceIte, reduceCtorEq, Int.reduceLE, Int.reduceLT, Int.reduceEq, Int.reduceAdd, Int.reduceMul, Int.reduceSub, Nat.reduceMul, Nat.reduceSub, Nat.reducePow, Nat.reduceLeDiff, Int.reduceToNat, DD, QZ]
    rfl
  · have r1 := qroot_ok (RD_D hn) (Int.not_le.1 q) (by decide) p m
    rw [show far z (heldP p) (decide (m = 1)) = droot (nrm z) (heldP p) (decide (m = 1)) from rfl]
    simp -implicitDefEqProofs only [go_sem, Nat.reduceAdd, Nat.reduceEqDiff, Nat.reduceLT, reduceIte, reduceCtorEq, Int.reduceLE, Int.reduceLT, Int.reduceEq, Int.reduceAdd, Int.reduceMul, Int.reduceSub, Nat.reduceMul, Nat.reduceSub, Nat.reducePow, Nat.reduceLeDiff, Int.reduceToNat, Tryd.f36, DD]
    refine callK_q gauss_Norm.call (g1) rfl rfl ?_
    simp -implicitDefEqProofs only [go_sem, Nat.reduceAdd, Nat.reduceEqDiff, Nat.reduceLT, reduceIte, reduceCtorEq, Int.reduceLE, Int.reduceLT, Int.reduceEq, Int.reduceAdd, Int.reduceMul, Int.reduceSub, Nat.reduceMul, Nat.reduceSub, Nat.reducePow, Nat.reduceLeDiff, Int.reduceToNat, DD]
    refine callK_q quot_Root.call (r1) rfl rfl ?_
    simp -implicitDefEqProofs only [go_sem, Nat.reduceAdd, Nat.reduceEqDiff, Nat.reduceLT, reduceIte, reduceCtorEq, Int.reduceLE, Int.reduceLT, Int.reduceEq, Int.reduceAdd, Int.reduceMul, Int.reduceSub, Nat.reduceMul, Nat.reduceSub, Nat.reducePow, Nat.reduceLeDiff, Int.reduceToNat, DD]
/-- nought's cells, as they are at first -/
def zc3 : List AV := [Bo false, .v (.slice none 0 0), I64 0]
def dcl (d : Dyadic) : List AV := [Bo (decide (dnum d < 0)), U32 (lim (dnum d).natAbs), I64 (dexp d)]
theorem z0a : decide (dnum (0 : Dyadic) < 0) = false := rfl
theorem z0b : lim (dnum (0 : Dyadic)).natAbs = [] := by rw [dn0]; exact lim_zero
theorem others_s (h : RP cs n f 296) (hn : n ≤ 1000) (k p m : Int) (hp : heldP p ≤ 400) : Sat CT false 80 [.sl n cs, I64 k, I64 p, I64 m] (DI (osum f k (heldP p) (decide (m = 1)) n)) := by
  refine sat_of pellet_others.ok (by simp) ?_
  have DD := pellet_others.dr
  simp only [drP, drPx, drPt, drR, drS, drT, bodyOf, Tryd.f80, Nat.reduceEqDiff, reduceIte, true_and, and_true] at DD
  have hlen := h.len
  have hP1 := (heldP_v p).2.2.1
  have hDB := osum_db h.pb k hP1 hp (decide (m = 1))
  have hfar := fun i => far_s (a := .agg ((cs.drop (i * 6)).take 6)) (z := f i) (B := 296)
  simp -implicitDefEqProofs only [go_sem, Nat.reduceAdd, Nat.reduceEqDiff, Nat.reduceLT, reduceIte, reduceCtorEq, Int.reduceLE, Int.reduceLT, Int.reduceEq, Int.reduceAdd, Int.reduceMul, Int.reduceSub, Nat.reduceMul, Nat.reduceSub, Nat.reducePow, Nat.reduceLeDiff, Int.reduceToNat, Tryd.f80, DD]
  refine scope0 aW0_mono ?_
  simp -implicitDefEqProofs only [go_sem, Nat.reduceAdd, Nat.reduceEqDiff, Nat.reduceLT, reduceIte, reduceCtorEq, Int.reduceLE, Int.reduceLT, Int.reduceEq, Int.reduceAdd, Int.reduceMul, Int.reduceSub, Nat.reduceMul, Nat.reduceSub, Nat.reducePow, Nat.reduceLeDiff, Int.reduceToNat, DD]
  refine loop_of aW0_mono (fun q σ => ∃ sl H i oc, σ = ⟨sl, H⟩ ∧ q = n - i ∧ i ≤ n ∧ look sl 1 = I64 k ∧ look sl 2 = I64 p ∧ look sl 3 = I64 m ∧ look sl 8 = .ptr 0 0 ∧ look sl 9 = .ptr 1 0 ∧ look sl 12 = .sl n cs ∧ look sl 13 = I64 (n : Nat) ∧ look sl 14 = I64 (i : Nat) ∧ 1 < H.length ∧ H.getD 0 ⟨[], false, false⟩ = ⟨zc3, true, true⟩ ∧ H.getD 1 ⟨[], false, false⟩ = ⟨oc, true, true⟩ ∧ (oc = zc3 ∧ osum f k (heldP p) (decide (m = 1)) i = 0 ∨ oc = dcl (osum f k (heldP p) (decide (m = 1)) i))) ?_ (n := n)
    ⟨_, _, 0, zc3, rfl, rfl, Nat.zero_le _, by simp [x_look], by simp [x_look], by simp [x_look], by simp [x_look], by simp [x_look], by simp [x_look], by simp [x_look], by simp [x_look], by simp, rfl, rfl, .inl ⟨rfl, rfl⟩⟩
  rintro q _ ⟨sl, H, i, oc, rfl, rfl, hi, k1, k2, k3, k8, k9, k12, k13, k14, hH, hg0, hg1, ho⟩
  by_cases hid : i = n
  · subst hid
    have gs : ∀ x, (H.set 0 x).getD 0 ⟨[], false, false⟩ = x := fun x => by rw [getD_set (by omega), if_pos rfl]
    rcases ho with ⟨rfl, e0⟩ | rfl
    · rw [e0]
      simp -implicitDefEqProofs only [go_sem, Nat.reduceAdd, Nat.reduceEqDiff, Nat.reduceLT, reduceIte, reduceCtorEq, Int.reduceLE, Int.reduceLT, Int.reduceEq, Int.reduceAdd, Int.reduceMul, Int.reduceSub, Nat.reduceMul, Nat.reduceSub, Nat.reducePow, Nat.reduceLeDiff, Int.reduceToNat, DD, k1, k2, k3, k8, k9, k12, k13, k14, hg0, hg1, Int.lt_irrefl, zc3, gs, z0a, z0b, de0]
      rfl
    · simp -implicitDefEqProofs only [go_sem, Nat.reduceAdd, Nat.reduceEqDiff, Nat.reduceLT, reduceIte, reduceCtorEq, Int.reduceLE, Int.reduceLT, Int.reduceEq, Int.reduceAdd, Int.reduceMul, Int.reduceSub, Nat.reduceMul, Nat.reduceSub, Nat.reducePow, Nat.reduceLeDiff, Int.reduceToNat, DD, k1, k2, k3, k8, k9, k12, k13, k14, hg0, hg1, Int.lt_irrefl, zc3, dcl, gs]
  · have c1 : (i : Int) < (n : Int) := by omega
    have ci : IntKind.i64.wrap ((i : Int) + 1) = ((i + 1 : Nat) : Int) := by rw [wrap_id (by omega)]; omega
    have c2 : (0 : Int) ≤ (i : Int) := by omega
    have c4 : i * 6 < cs.length := by omega
    have c5 : i * 6 + 6 ≤ cs.length := by omega
    obtain ⟨s, l, e, t, kk, gg, hc, hr⟩ := h.cells (i := i) (by omega)
    have f1 := far_s hr (by decide) p m
    have g0 : ∀ y, (H ++ [y]).getD 0 ⟨[], false, false⟩ = ⟨zc3, true, true⟩ := fun y => by rw [getD_hp (by omega)]; exact hg0
    have g1 : ∀ y, (H ++ [y]).getD 1 ⟨[], false, false⟩ = ⟨oc, true, true⟩ := fun y => by rw [getD_hp hH]; exact hg1
    by_cases hk : (i : Int) = k
    · have eS : osum f k (heldP p) (decide (m = 1)) (i + 1) = osum f k (heldP p) (decide (m = 1)) i := if_pos hk
      subst hk
      simp -implicitDefEqProofs only [go_sem, Nat.reduceAdd, Nat.reduceEqDiff, Nat.reduceLT, reduceIte, reduceCtorEq, Int.reduceLE, Int.reduceLT, Int.reduceEq, Int.reduceAdd, Int.reduceMul, Int.reduceSub, Nat.reduceMul, Nat.reduceSub, Nat.reducePow, Nat.reduceLeDiff, Int.reduceToNat, DD, k1, k2, k3, k8, k9, k12, k13, k14, c1, c2, c4, c5, ci, hc, eq_self]
      exact ⟨n - (i + 1), by omega, _, _, i + 1, oc, rfl, rfl, by omega, by simp [x_look, k1], by simp [x_look, k2], by simp [x_look, k3], by simp [x_look, k8], by simp [x_look, k9], by simp [x_look, k12], by simp [x_look, k13], by simp [x_look], by simp; omega, g0 _, g1 _, by rw [eS]; exact ho⟩
    · have eS : osum f k (heldP p) (decide (m = 1)) (i + 1) = osum f k (heldP p) (decide (m = 1)) i + far (f i) (heldP p) (decide (m = 1)) := if_neg hk
      have a1 := dadd_r (RD_D ((hDB i).mono (C := 9201) (by omega))) (RD_D (far_db (h.pb i) hP1 hp (decide (m = 1)))) (by decide) (by decide)
      rw [← eS] at a1
      rcases ho with ⟨rfl, e0⟩ | rfl
      · rw [e0, DI_0] at a1
        simp -implicitDefEqProofs only [go_sem, Nat.reduceAdd, Nat.reduceEqDiff, Nat.reduceLT, reduceIte, reduceCtorEq, Int.reduceLE, Int.reduceLT, Int.reduceEq, Int.reduceAdd, Int.reduceMul, Int.reduceSub, Nat.reduceMul, Nat.reduceSub, Nat.reducePow, Nat.reduceLeDiff, Int.reduceToNat, DD, k1, k2, k3, k8, k9, k12, k13, k14, c1, c2, c4, c5, ci, hc, hk, g0, g1, zc3]
        refine callK_q pellet_Far.call (f1) rfl rfl ?_
        simp -implicitDefEqProofs only [go_sem, Nat.reduceAdd, Nat.reduceEqDiff, Nat.reduceLT, reduceIte, reduceCtorEq, Int.reduceLE, Int.reduceLT, Int.reduceEq, Int.reduceAdd, Int.reduceMul, Int.reduceSub, Nat.reduceMul, Nat.reduceSub, Nat.reducePow, Nat.reduceLeDiff, Int.reduceToNat, DD, k1, k2, k3, k8, k9, k12, k13, k14, c1, c2, c4, c5, ci, hc, hk, g0, g1, zc3]
        refine callK_q dyad_Add.call (a1) rfl rfl ?_
        simp -implicitDefEqProofs only [go_sem, Nat.reduceAdd, Nat.reduceEqDiff, Nat.reduceLT, reduceIte, reduceCtorEq, Int.reduceLE, Int.reduceLT, Int.reduceEq, Int.reduceAdd, Int.reduceMul, Int.reduceSub, Nat.reduceMul, Nat.reduceSub, Nat.reducePow, Nat.reduceLeDiff, Int.reduceToNat, DD, k1, k2, k3, k8, k9, k12, k13, k14, c1, c2, c4, c5, ci, hc, hk, g0, g1, zc3]
        exact ⟨n - (i + 1), by omega, _, _, i + 1, _, rfl, rfl, by omega, by simp [x_look, k1], by simp [x_look, k2], by simp [x_look, k3], by simp [x_look, k8], by simp [x_look, k9], by simp [x_look, k12], by simp [x_look, k13], by simp [x_look], by simp <;> omega, by rw [getD_set (by simp <;> omega), if_neg (by decide)]; exact g0 _, by (rw [getD_set (by simp <;> omega), if_pos rfl]) <;> rfl, .inr rfl⟩
      · simp -implicitDefEqProofs only [go_sem, Nat.reduceAdd, Nat.reduceEqDiff, Nat.reduceLT, reduceIte, reduceCtorEq, Int.reduceLE, Int.reduceLT, Int.reduceEq, Int.reduceAdd, Int.reduceMul, Int.reduceSub, Nat.reduceMul, Nat.reduceSub, Nat.reducePow, Nat.reduceLeDiff, Int.reduceToNat, DD, k1, k2, k3, k8, k9, k12, k13, k14, c1, c2, c4, c5, ci, hc, hk, g0, g1, dcl]
        refine callK_q pellet_Far.call (f1) rfl rfl ?_
        simp -implicitDefEqProofs only [go_sem, Nat.reduceAdd, Nat.reduceEqDiff, Nat.reduceLT, reduceIte, reduceCtorEq, Int.reduceLE, Int.reduceLT, Int.reduceEq, Int.reduceAdd, Int.reduceMul, Int.reduceSub, Nat.reduceMul, Nat.reduceSub, Nat.reducePow, Nat.reduceLeDiff, Int.reduceToNat, DD, k1, k2, k3, k8, k9, k12, k13, k14, c1, c2, c4, c5, ci, hc, hk, g0, g1, dcl]
        refine callK_q dyad_Add.call (a1) rfl rfl ?_
        simp -implicitDefEqProofs only [go_sem, Nat.reduceAdd, Nat.reduceEqDiff, Nat.reduceLT, reduceIte, reduceCtorEq, Int.reduceLE, Int.reduceLT, Int.reduceEq, Int.reduceAdd, Int.reduceMul, Int.reduceSub, Nat.reduceMul, Nat.reduceSub, Nat.reducePow, Nat.reduceLeDiff, Int.reduceToNat, DD, k1, k2, k3, k8, k9, k12, k13, k14, c1, c2, c4, c5, ci, hc, hk, g0, g1, dcl]
        exact ⟨n - (i + 1), by omega, _, _, i + 1, _, rfl, rfl, by omega, by simp [x_look, k1], by simp [x_look, k2], by simp [x_look, k3], by simp [x_look, k8], by simp [x_look, k9], by simp [x_look, k12], by simp [x_look, k13], by simp [x_look], by simp <;> omega, by rw [getD_set (by simp <;> omega), if_neg (by decide)]; exact g0 _, by (rw [getD_set (by simp <;> omega), if_pos rfl]) <;> rfl, .inr rfl⟩
/-- whether the place is told for sure, what is told of a place -/
def tYes (f : Po) (d : Nat) (k P : Nat) : Prop := 0 < dsg (far (f k) P false - osum f k P true d)
def tNo (f : Po) (d : Nat) (k P : Nat) : Prop := dsg (far (f k) P true - osum f k P false d) ≤ 0
theorem test_out (h : RP cs n f 296) (hcs : ∀ c ∈ cs, IsD c) (k p : Int) (hk : k < 0 ∨ (dg n f : Nat) ≤ k) : Sat CT false 33 [.sl n cs, I64 k, I64 p] (I64 0) := by
  refine sat_of pellet_Test.ok (by simp) ?_
  have DD := pellet_Test.dr
  simp only [drP, drPx, drPt, drR, drS, drT, bodyOf, Tryd.f33, Nat.reduceEqDiff, reduceIte, true_and, and_true] at DD
  have q := ptrim_s h (by decide)
  have hP : PA (dg n f) f = .sl (dg n f) (pcl (dg n f) f) := rfl
  by_cases h0 : k < 0
  · simp -implicitDefEqProofs only [go_sem, Nat.reduceAdd, Nat.reduceEqDiff, Nat.reduceLT, reduceIte, reduceCtorEq, Int.reduceLE, Int.reduceLT, Int.reduceEq, Int.reduceAdd, Int.reduceMul, Int.reduceSub, Nat.reduceMul, Nat.reduceSub, Nat.reducePow, Nat.reduceLeDiff, Int.reduceToNat, Tryd.f33, DD, h0]
    refine callK_pl poly_Trim.call (q) (pl1 (pld_sl hcs)) ?_
    simp -implicitDefEqProofs only [go_sem, Nat.reduceAdd, Nat.reduceEqDiff, Nat.reduceLT, reduceIte, reduceCtorEq, Int.reduceLE, Int.reduceLT, Int.reduceEq, Int.reduceAdd, Int.reduceMul, Int.reduceSub, Nat.reduceMul, Nat.reduceSub, Nat.reducePow, Nat.reduceLeDiff, Int.reduceToNat, DD, h0, hP]
  · have h1 : (dg n f : Int) ≤ k := by omega
    simp -implicitDefEqProofs only [go_sem, Nat.reduceAdd, Nat.reduceEqDiff, Nat.reduceLT, reduceIte, reduceCtorEq, Int.reduceLE, Int.reduceLT, Int.reduceEq, Int.reduceAdd, Int.reduceMul, Int.reduceSub, Nat.reduceMul, Nat.reduceSub, Nat.reducePow, Nat.reduceLeDiff, Int.reduceToNat, Tryd.f33, DD, h0, ge_iff_le]
    refine callK_pl poly_Trim.call (q) (pl1 (pld_sl hcs)) ?_
    simp -implicitDefEqProofs only [go_sem, Nat.reduceAdd, Nat.reduceEqDiff, Nat.reduceLT, reduceIte, reduceCtorEq, Int.reduceLE, Int.reduceLT, Int.reduceEq, Int.reduceAdd, Int.reduceMul, Int.reduceSub, Nat.reduceMul, Nat.reduceSub, Nat.reducePow, Nat.reduceLeDiff, Int.reduceToNat, DD, h0, h1, hP, ge_iff_le]
theorem pl3 {a b c : AV} (h : PlD a) (g : PlD b) (i : PlD c) : ∀ x ∈ [a, b, c], PlD x := fun x hx => by
  rcases List.mem_cons.1 hx with rfl | hx
  · exact h
  · exact pl2 g i x hx
theorem pl4 {a b c d : AV} (h : PlD a) (g : PlD b) (i : PlD c) (j : PlD d) : ∀ x ∈ [a, b, c, d], PlD x := fun x hx => by
  rcases List.mem_cons.1 hx with rfl | hx
  · exact h
  · exact pl3 g i j x hx
set_option maxHeartbeats 1000000 in
theorem test_in (h : RP cs n f 296) (hcs : ∀ c ∈ cs, IsD c) (hn : n ≤ 1000) (k : Nat) (hk : k < dg n f) (p : Int) (hp : heldP p ≤ 400) :
    (tYes f (dg n f) k (heldP p) → Sat CT false 33 [.sl n cs, I64 k, I64 p] (I64 1)) ∧ (¬ tYes f (dg n f) k (heldP p) → tNo f (dg n f) k (heldP p) → Sat CT false 33 [.sl n cs, I64 k, I64 p] (I64 0)) ∧
    (¬ tYes f (dg n f) k (heldP p) → ¬ tNo f (dg n f) k (heldP p) → Sat CT false 33 [.sl n cs, I64 k, I64 p] (I64 2)) := by
  have DD := pellet_Test.dr
  simp only [drP, drPx, drPt, drR, drS, drT, bodyOf, Tryd.f33, Nat.reduceEqDiff, reduceIte, true_and, and_true] at DD
  have hd := dg_le n f
  have q := ptrim_s h (by decide)
  have hP : PA (dg n f) f = .sl (dg n f) (pcl (dg n f) f) := rfl
  have hP1 := (heldP_v p).2.2.1
  have rp : RP (pcl (dg n f) f) (dg n f) f 296 := RP_P h.pb (dg_sp h.sp) (by omega)
  unfold tYes tNo
  generalize dg n f = d at *
  have c1 : ¬ (k : Int) < 0 := by omega
  have c2 : ¬ (d : Int) ≤ (k : Int) := by omega
  have c3 : (0 : Int) ≤ (k : Int) := by omega
  have c6 : (k : Int) < (d : Int) := by omega
  have c4 : k * 6 < (pcl d f).length := by rw [pcl_len]; omega
  have c5 : k * 6 + 6 ≤ (pcl d f).length := by rw [pcl_len]; omega
  have hc := pcl_el (n := d) f hk
  have hr : RC (CI (f k)) (f k) 296 := RC_C (h.pb k)
  have f0 := far_s hr (by decide) p 0
  have f1 := far_s hr (by decide) p 1
  have o1 := others_s rp (by omega) k p 1 hp
  have o0 := others_s rp (by omega) k p 0 hp
  rw [show decide ((0 : Int) = 1) = false from rfl] at f0 o0
  rw [show decide ((1 : Int) = 1) = true from rfl] at f1 o1
  have b0 := far_db (h.pb k) hP1 hp false
  have b1 := far_db (h.pb k) hP1 hp true
  have v1 := (osum_db h.pb k hP1 hp true d).mono (C := 9201) (by omega)
  have v0 := (osum_db h.pb k hP1 hp false d).mono (C := 9201) (by omega)
  have k1 := dcmp_r (RD_D b0) (RD_D v1) (by decide) (by decide)
  have k2 := dcmp_r (RD_D b1) (RD_D v0) (by decide) (by decide)
  generalize far (f k) (heldP p) false = x0 at *
  generalize far (f k) (heldP p) true = x1 at *
  generalize osum f k (heldP p) true d = y1 at *
  generalize osum f k (heldP p) false d = y0 at *
  unfold dsg
  refine ⟨fun g1 => ?_, fun g1 g2 => ?_, fun g1 g2 => ?_⟩
  · refine sat_of pellet_Test.ok (by simp) ?_
    simp -implicitDefEqProofs only [go_sem, Nat.reduceAdd, Nat.reduceEqDiff, Nat.reduceLT, reduceIte, reduceCtorEq, Int.reduceLE, Int.reduceLT, Int.reduceEq, Int.reduceAdd, Int.reduceMul, Int.reduceSub, Nat.reduceMul, Nat.reduceSub, Nat.reducePow, Nat.reduceLeDiff, Int.reduceToNat, Tryd.f33, DD, c1, ge_iff_le, gt_iff_lt]
    refine callK_pl poly_Trim.call (q) (pl1 (pld_sl hcs)) ?_
    simp -implicitDefEqProofs only [go_sem, Nat.reduceAdd, Nat.reduceEqDiff, Nat.reduceLT, reduceIte, reduceCtorEq, Int.reduceLE, Int.reduceLT, Int.reduceEq, Int.reduceAdd, Int.reduceMul, Int.reduceSub, Nat.reduceMul, Nat.reduceSub, Nat.reducePow, Nat.reduceLeDiff, Int.reduceToNat, DD, c1, c2, c3, c4, c5, c6, hP, hc, g1, ge_iff_le, gt_iff_lt]
    refine callK_pl pellet_Far.call (f0) (pl3 (pld_CI _) pld_int pld_int) ?_
    simp -implicitDefEqProofs only [go_sem, Nat.reduceAdd, Nat.reduceEqDiff, Nat.reduceLT, reduceIte, reduceCtorEq, Int.reduceLE, Int.reduceLT, Int.reduceEq, Int.reduceAdd, Int.reduceMul, Int.reduceSub, Nat.reduceMul, Nat.reduceSub, Nat.reducePow, Nat.reduceLeDiff, Int.reduceToNat, DD, c1, c2, c3, c4, c5, c6, hP, hc, g1, ge_iff_le, gt_iff_lt]
    refine callK_pl pellet_others.call (o1) (pl4 (pld_PA _ _) pld_int pld_int pld_int) ?_
    simp -implicitDefEqProofs only [go_sem, Nat.reduceAdd, Nat.reduceEqDiff, Nat.reduceLT, reduceIte, reduceCtorEq, Int.reduceLE, Int.reduceLT, Int.reduceEq, Int.reduceAdd, Int.reduceMul, Int.reduceSub, Nat.reduceMul, Nat.reduceSub, Nat.reducePow, Nat.reduceLeDiff, Int.reduceToNat, DD, c1, c2, c3, c4, c5, c6, hP, hc, g1, ge_iff_le, gt_iff_lt]
    refine callK_q dyad_Cmp.call (k1) rfl rfl ?_
    simp -implicitDefEqProofs only [go_sem, Nat.reduceAdd, Nat.reduceEqDiff, Nat.reduceLT, reduceIte, reduceCtorEq, Int.reduceLE, Int.reduceLT, Int.reduceEq, Int.reduceAdd, Int.reduceMul, Int.reduceSub, Nat.reduceMul, Nat.reduceSub, Nat.reducePow, Nat.reduceLeDiff, Int.reduceToNat, DD, c1, c2, c3, c4, c5, c6, hP, hc, g1, ge_iff_le, gt_iff_lt]
  · refine sat_of pellet_Test.ok (by simp) ?_
    simp -implicitDefEqProofs only [go_sem, Nat.reduceAdd, Nat.reduceEqDiff, Nat.reduceLT, reduceIte, reduceCtorEq, Int.reduceLE, Int.reduceLT, Int.reduceEq, Int.reduceAdd, Int.reduceMul, Int.reduceSub, Nat.reduceMul, Nat.reduceSub, Nat.reducePow, Nat.reduceLeDiff, Int.reduceToNat, Tryd.f33, DD, c1, ge_iff_le, gt_iff_lt]
    refine callK_pl poly_Trim.call (q) (pl1 (pld_sl hcs)) ?_
    simp -implicitDefEqProofs only [go_sem, Nat.reduceAdd, Nat.reduceEqDiff, Nat.reduceLT, reduceIte, reduceCtorEq, Int.reduceLE, Int.reduceLT, Int.reduceEq, Int.reduceAdd, Int.reduceMul, Int.reduceSub, Nat.reduceMul, Nat.reduceSub, Nat.reducePow, Nat.reduceLeDiff, Int.reduceToNat, DD, c1, c2, c3, c4, c5, c6, hP, hc, g1, ge_iff_le, gt_iff_lt, g2]
    refine callK_pl pellet_Far.call (f0) (pl3 (pld_CI _) pld_int pld_int) ?_
    simp -implicitDefEqProofs only [go_sem, Nat.reduceAdd, Nat.reduceEqDiff, Nat.reduceLT, reduceIte, reduceCtorEq, Int.reduceLE, Int.reduceLT, Int.reduceEq, Int.reduceAdd, Int.reduceMul, Int.reduceSub, Nat.reduceMul, Nat.reduceSub, Nat.reducePow, Nat.reduceLeDiff, Int.reduceToNat, DD, c1, c2, c3, c4, c5, c6, hP, hc, g1, ge_iff_le, gt_iff_lt, g2]
    refine callK_pl pellet_others.call (o1) (pl4 (pld_PA _ _) pld_int pld_int pld_int) ?_
    simp -implicitDefEqProofs only [go_sem, Nat.reduceAdd, Nat.reduceEqDiff, Nat.reduceLT, reduceIte, reduceCtorEq, Int.reduceLE, Int.reduceLT, Int.reduceEq, Int.reduceAdd, Int.reduceMul, Int.reduceSub, Nat.reduceMul, Nat.reduceSub, Nat.reducePow, Nat.reduceLeDiff, Int.reduceToNat, DD, c1, c2, c3, c4, c5, c6, hP, hc, g1, ge_iff_le, gt_iff_lt, g2]
    refine callK_q dyad_Cmp.call (k1) rfl rfl ?_
    simp -implicitDefEqProofs only [go_sem, Nat.reduceAdd, Nat.reduceEqDiff, Nat.reduceLT, reduceIte, reduceCtorEq, Int.reduceLE, Int.reduceLT, Int.reduceEq, Int.reduceAdd, Int.reduceMul, Int.reduceSub, Nat.reduceMul, Nat.reduceSub, Nat.reducePow, Nat.reduceLeDiff, Int.reduceToNat, DD, c1, c2, c3, c4, c5, c6, hP, hc, g1, ge_iff_le, gt_iff_lt, g2]
    refine callK_pl pellet_Far.call (f1) (pl3 (pld_CI _) pld_int pld_int) ?_
    simp -implicitDefEqProofs only [go_sem, Nat.reduceAdd, Nat.reduceEqDiff, Nat.reduceLT, reduceIte, reduceCtorEq, Int.reduceLE, Int.reduceLT, Int.reduceEq, Int.reduceAdd, Int.reduceMul, Int.reduceSub, Nat.reduceMul, Nat.reduceSub, Nat.reducePow, Nat.reduceLeDiff, Int.reduceToNat, DD, c1, c2, c3, c4, c5, c6, hP, hc, g1, ge_iff_le, gt_iff_lt, g2]
    refine callK_pl pellet_others.call (o0) (pl4 (pld_PA _ _) pld_int pld_int pld_int) ?_
    simp -implicitDefEqProofs only [go_sem, Nat.reduceAdd, Nat.reduceEqDiff, Nat.reduceLT, reduceIte, reduceCtorEq, Int.reduceLE, Int.reduceLT, Int.reduceEq, Int.reduceAdd, Int.reduceMul, Int.reduceSub, Nat.reduceMul, Nat.reduceSub, Nat.reducePow, Nat.reduceLeDiff, Int.reduceToNat, DD, c1, c2, c3, c4, c5, c6, hP, hc, g1, ge_iff_le, gt_iff_lt, g2]
    refine callK_q dyad_Cmp.call (k2) rfl rfl ?_
    simp -implicitDefEqProofs only [go_sem, Nat.reduceAdd, Nat.reduceEqDiff, Nat.reduceLT, reduceIte, reduceCtorEq, Int.reduceLE, Int.reduceLT, Int.reduceEq, Int.reduceAdd, Int.reduceMul, Int.reduceSub, Nat.reduceMul, Nat.reduceSub, Nat.reducePow, Nat.reduceLeDiff, Int.reduceToNat, DD, c1, c2, c3, c4, c5, c6, hP, hc, g1, ge_iff_le, gt_iff_lt, g2]
  · refine sat_of pellet_Test.ok (by simp) ?_
    simp -implicitDefEqProofs only [go_sem, Nat.reduceAdd, Nat.reduceEqDiff, Nat.reduceLT, reduceIte, reduceCtorEq, Int.reduceLE, Int.reduceLT, Int.reduceEq, Int.reduceAdd, Int.reduceMul, Int.reduceSub, Nat.reduceMul, Nat.reduceSub, Nat.reducePow, Nat.reduceLeDiff, Int.reduceToNat, Tryd.f33, DD, c1, ge_iff_le, gt_iff_lt]
    refine callK_pl poly_Trim.call (q) (pl1 (pld_sl hcs)) ?_
    simp -implicitDefEqProofs only [go_sem, Nat.reduceAdd, Nat.reduceEqDiff, Nat.reduceLT, reduceIte, reduceCtorEq, Int.reduceLE, Int.reduceLT, Int.reduceEq, Int.reduceAdd, Int.reduceMul, Int.reduceSub, Nat.reduceMul, Nat.reduceSub, Nat.reducePow, Nat.reduceLeDiff, Int.reduceToNat, DD, c1, c2, c3, c4, c5, c6, hP, hc, g1, ge_iff_le, gt_iff_lt, g2]
    refine callK_pl pellet_Far.call (f0) (pl3 (pld_CI _) pld_int pld_int) ?_
    simp -implicitDefEqProofs only [go_sem, Nat.reduceAdd, Nat.reduceEqDiff, Nat.reduceLT, reduceIte, reduceCtorEq, Int.reduceLE, Int.reduceLT, Int.reduceEq, Int.reduceAdd, Int.reduceMul, Int.reduceSub, Nat.reduceMul, Nat.reduceSub, Nat.reducePow, Nat.reduceLeDiff, Int.reduceToNat, DD, c1, c2, c3, c4, c5, c6, hP, hc, g1, ge_iff_le, gt_iff_lt, g2]
    refine callK_pl pellet_others.call (o1) (pl4 (pld_PA _ _) pld_int pld_int pld_int) ?_
    simp -implicitDefEqProofs only [go_sem, Nat.reduceAdd, Nat.reduceEqDiff, Nat.reduceLT, reduceIte, reduceCtorEq, Int.reduceLE, Int.reduceLT, Int.reduceEq, Int.reduceAdd, Int.reduceMul, Int.reduceSub, Nat.reduceMul, Nat.reduceSub, Nat.reducePow, Nat.reduceLeDiff, Int.reduceToNat, DD, c1, c2, c3, c4, c5, c6, hP, hc, g1, ge_iff_le, gt_iff_lt, g2]
    refine callK_q dyad_Cmp.call (k1) rfl rfl ?_
    simp -implicitDefEqProofs only [go_sem, Nat.reduceAdd, Nat.reduceEqDiff, Nat.reduceLT, reduceIte, reduceCtorEq, Int.reduceLE, Int.reduceLT, Int.reduceEq, Int.reduceAdd, Int.reduceMul, Int.reduceSub, Nat.reduceMul, Nat.reduceSub, Nat.reducePow, Nat.reduceLeDiff, Int.reduceToNat, DD, c1, c2, c3, c4, c5, c6, hP, hc, g1, ge_iff_le, gt_iff_lt, g2]
    refine callK_pl pellet_Far.call (f1) (pl3 (pld_CI _) pld_int pld_int) ?_
    simp -implicitDefEqProofs only [go_sem, Nat.reduceAdd, Nat.reduceEqDiff, Nat.reduceLT, reduceIte, reduceCtorEq, Int.reduceLE, Int.reduceLT, Int.reduceEq, Int.reduceAdd, Int.reduceMul, Int.reduceSub, Nat.reduceMul, Nat.reduceSub, Nat.reducePow, Nat.reduceLeDiff, Int.reduceToNat, DD, c1, c2, c3, c4, c5, c6, hP, hc, g1, ge_iff_le, gt_iff_lt, g2]
    refine callK_pl pellet_others.call (o0) (pl4 (pld_PA _ _) pld_int pld_int pld_int) ?_
    simp -implicitDefEqProofs only [go_sem, Nat.reduceAdd, Nat.reduceEqDiff, Nat.reduceLT, reduceIte, reduceCtorEq, Int.reduceLE, Int.reduceLT, Int.reduceEq, Int.reduceAdd, Int.reduceMul, Int.reduceSub, Nat.reduceMul, Nat.reduceSub, Nat.reducePow, Nat.reduceLeDiff, Int.reduceToNat, DD, c1, c2, c3, c4, c5, c6, hP, hc, g1, ge_iff_le, gt_iff_lt, g2]
    refine callK_q dyad_Cmp.call (k2) rfl rfl ?_
    simp -implicitDefEqProofs only [go_sem, Nat.reduceAdd, Nat.reduceEqDiff, Nat.reduceLT, reduceIte, reduceCtorEq, Int.reduceLE, Int.reduceLT, Int.reduceEq, Int.reduceAdd, Int.reduceMul, Int.reduceSub, Nat.reduceMul, Nat.reduceSub, Nat.reducePow, Nat.reduceLeDiff, Int.reduceToNat, DD, c1, c2, c3, c4, c5, c6, hP, hc, g1, ge_iff_le, gt_iff_lt, g2]
/-- which place is told: the first one for sure -/
def aYes (f : Po) (d : Nat) (k P : Nat) : Prop := 0 < dsg (far (f k) P false - (osum f (-1) P true d - far (f k) P true))
theorem any_s (h : RP cs n f 296) (hcs : ∀ c ∈ cs, IsD c) (hn : n ≤ 1000) (p : Int) (hp : heldP p ≤ 400) :
    (∀ j, j < dg n f → (∀ i, i < j → ¬ aYes f (dg n f) i (heldP p)) → aYes f (dg n f) j (heldP p) → Sat CT false 35 [.sl n cs, I64 p] (.tup [I64 (j : Nat), Bo true])) ∧
    ((∀ i, i < dg n f → ¬ aYes f (dg n f) i (heldP p)) → Sat CT false 35 [.sl n cs, I64 p] (.tup [I64 (-1), Bo false])) := by
  have DD := pellet_Any.dr
  simp only [drP, drPx, drPt, drR, drS, drT, bodyOf, Tryd.f35, Nat.reduceEqDiff, reduceIte, true_and, and_true] at DD
  have hd := dg_le n f
  have q := ptrim_s h (by decide)
  have hP : PA (dg n f) f = .sl (dg n f) (pcl (dg n f) f) := rfl
  have hP1 := (heldP_v p).2.2.1
  have rp : RP (pcl (dg n f) f) (dg n f) f 296 := RP_P h.pb (dg_sp h.sp) (by omega)
  unfold aYes dsg
  generalize dg n f = d at *
  have f0 := fun k => far_s (RC_C (h.pb k)) (by decide) p 0
  have f1 := fun k => far_s (RC_C (h.pb k)) (by decide) p 1
  have o1 := others_s rp (by omega) (-1) p 1 hp
  rw [show decide ((1 : Int) = 1) = true from rfl] at o1 f1
  rw [show decide ((0 : Int) = 1) = false from rfl] at f0
  have b0 := fun k => far_db (h.pb k) hP1 hp false
  have b1 := fun k => far_db (h.pb k) hP1 hp true
  have v1 := (osum_db h.pb (-1) hP1 hp true d).mono (C := 9201) (by omega)
  generalize osum f (-1) (heldP p) true d = S at *
  have u1 := fun k => dsub_r (RD_D v1) (RD_D (b1 k)) (by decide) (by decide)
  have k1 := fun k => dcmp_r (RD_D (b0 k)) (RD_D (v1.sub ((b1 k).mono (C := 9201) (by decide)))) (by decide) (by decide)
  constructor
  · intro j hj hno hyes
    refine sat_of pellet_Any.ok (by simp) ?_
    simp -implicitDefEqProofs only [go_sem, Nat.reduceAdd, Nat.reduceEqDiff, Nat.reduceLT, reduceIte, reduceCtorEq, Int.reduceLE, Int.reduceLT, Int.reduceEq, Int.reduceAdd, Int.reduceMul, Int.reduceSub, Nat.reduceMul, Nat.reduceSub, Nat.reducePow, Nat.reduceLeDiff, Int.reduceToNat, Tryd.f35, DD]
    refine callK_pl poly_Trim.call (q) (pl1 (pld_sl hcs)) ?_
    simp -implicitDefEqProofs only [go_sem, Nat.reduceAdd, Nat.reduceEqDiff, Nat.reduceLT, reduceIte, reduceCtorEq, Int.reduceLE, Int.reduceLT, Int.reduceEq, Int.reduceAdd, Int.reduceMul, Int.reduceSub, Nat.reduceMul, Nat.reduceSub, Nat.reducePow, Nat.reduceLeDiff, Int.reduceToNat, DD, hP]
    refine callK_pl pellet_others.call (o1) (pl4 (pld_PA _ _) pld_int pld_int pld_int) ?_
    simp -implicitDefEqProofs only [go_sem, Nat.reduceAdd, Nat.reduceEqDiff, Nat.reduceLT, reduceIte, reduceCtorEq, Int.reduceLE, Int.reduceLT, Int.reduceEq, Int.reduceAdd, Int.reduceMul, Int.reduceSub, Nat.reduceMul, Nat.reduceSub, Nat.reducePow, Nat.reduceLeDiff, Int.reduceToNat, DD, hP]
    refine loop_of aW0_mono (fun q σ => ∃ sl H i, σ = ⟨sl, H⟩ ∧ q = d - i ∧ i ≤ j ∧ look sl 1 = I64 p ∧ look sl 6 = .ptr 0 0 ∧ look sl 14 = .sl d (pcl d f) ∧ look sl 15 = I64 (d : Nat) ∧ look sl 16 = I64 (i : Nat) ∧ 0 < H.length ∧ H.getD 0 ⟨[], false, false⟩ = ⟨dcl S, true, true⟩) ?_ (n := d)
      ⟨_, _, 0, rfl, rfl, Nat.zero_le _, by simp [x_look], by simp [x_look], by simp [x_look], by simp [x_look], by simp [x_look], by simp, rfl⟩
    rintro r _ ⟨sl, H, i, rfl, rfl, hi, k1s, k6, k14, k15, k16, hH, hg0⟩
    have c1 : (i : Int) < (d : Int) := by omega
    have ci : IntKind.i64.wrap ((i : Int) + 1) = ((i + 1 : Nat) : Int) := by rw [wrap_id (by omega)]; omega
    have c2 : (0 : Int) ≤ (i : Int) := by omega
    have c4 : i * 6 < (pcl d f).length := by rw [pcl_len]; omega
    have c5 : i * 6 + 6 ≤ (pcl d f).length := by rw [pcl_len]; omega
    have hc := pcl_el (n := d) f (show i < d by omega)
    have g0 : ∀ y, (H ++ [y]).getD 0 ⟨[], false, false⟩ = ⟨dcl S, true, true⟩ := fun y => by rw [getD_hp hH]; exact hg0
    by_cases hij : i = j
    · subst hij
      have hy := hyes
      simp -implicitDefEqProofs only [go_sem, Nat.reduceAdd, Nat.reduceEqDiff, Nat.reduceLT, reduceIte, reduceCtorEq, Int.reduceLE, Int.reduceLT, Int.reduceEq, Int.reduceAdd, Int.reduceMul, Int.reduceSub, Nat.reduceMul, Nat.reduceSub, Nat.reducePow, Nat.reduceLeDiff, Int.reduceToNat, DD, k1s, k6, k14, k15, k16, hP, gt_iff_lt, c1, c2, c4, c5, ci, hc, g0, dcl, hy]
      refine callK_pl pellet_Far.call (f0 i) (pl3 (pld_CI _) pld_int pld_int) ?_
      simp -implicitDefEqProofs only [go_sem, Nat.reduceAdd, Nat.reduceEqDiff, Nat.reduceLT, reduceIte, reduceCtorEq, Int.reduceLE, Int.reduceLT, Int.reduceEq, Int.reduceAdd, Int.reduceMul, Int.reduceSub, Nat.reduceMul, Nat.reduceSub, Nat.reducePow, Nat.reduceLeDiff, Int.reduceToNat, DD, k1s, k6, k14, k15, k16, hP, gt_iff_lt, c1, c2, c4, c5, ci, hc, g0, dcl, hy]
      refine callK_pl pellet_Far.call (f1 i) (pl3 (pld_CI _) pld_int pld_int) ?_
      simp -implicitDefEqProofs only [go_sem, Nat.reduceAdd, Nat.reduceEqDiff, Nat.reduceLT, reduceIte, reduceCtorEq, Int.reduceLE, Int.reduceLT, Int.reduceEq, Int.reduceAdd, Int.reduceMul, Int.reduceSub, Nat.reduceMul, Nat.reduceSub, Nat.reducePow, Nat.reduceLeDiff, Int.reduceToNat, DD, k1s, k6, k14, k15, k16, hP, gt_iff_lt, c1, c2, c4, c5, ci, hc, g0, dcl, hy]
      refine callK_q dyad_Sub.call (u1 i) rfl rfl ?_
      simp -implicitDefEqProofs only [go_sem, Nat.reduceAdd, Nat.reduceEqDiff, Nat.reduceLT, reduceIte, reduceCtorEq, Int.reduceLE, Int.reduceLT, Int.reduceEq, Int.reduceAdd, Int.reduceMul, Int.reduceSub, Nat.reduceMul, Nat.reduceSub, Nat.reducePow, Nat.reduceLeDiff, Int.reduceToNat, DD, k1s, k6, k14, k15, k16, hP, gt_iff_lt, c1, c2, c4, c5, ci, hc, g0, dcl, hy]
      refine callK_q dyad_Cmp.call (k1 i) rfl rfl ?_
      simp -implicitDefEqProofs only [go_sem, Nat.reduceAdd, Nat.reduceEqDiff, Nat.reduceLT, reduceIte, reduceCtorEq, Int.reduceLE, Int.reduceLT, Int.reduceEq, Int.reduceAdd, Int.reduceMul, Int.reduceSub, Nat.reduceMul, Nat.reduceSub, Nat.reducePow, Nat.reduceLeDiff, Int.reduceToNat, DD, k1s, k6, k14, k15, k16, hP, gt_iff_lt, c1, c2, c4, c5, ci, hc, g0, dcl, hy]
    · have hy := hno i (by omega)
      simp -implicitDefEqProofs only [go_sem, Nat.reduceAdd, Nat.reduceEqDiff, Nat.reduceLT, reduceIte, reduceCtorEq, Int.reduceLE, Int.reduceLT, Int.reduceEq, Int.reduceAdd, Int.reduceMul, Int.reduceSub, Nat.reduceMul, Nat.reduceSub, Nat.reducePow, Nat.reduceLeDiff, Int.reduceToNat, DD, k1s, k6, k14, k15, k16, hP, gt_iff_lt, c1, c2, c4, c5, ci, hc, g0, dcl, hy]
      refine callK_pl pellet_Far.call (f0 i) (pl3 (pld_CI _) pld_int pld_int) ?_
      simp -implicitDefEqProofs only [go_sem, Nat.reduceAdd, Nat.reduceEqDiff, Nat.reduceLT, reduceIte, reduceCtorEq, Int.reduceLE, Int.reduceLT, Int.reduceEq, Int.reduceAdd, Int.reduceMul, Int.reduceSub, Nat.reduceMul, Nat.reduceSub, Nat.reducePow, Nat.reduceLeDiff, Int.reduceToNat, DD, k1s, k6, k14, k15, k16, hP, gt_iff_lt, c1, c2, c4, c5, ci, hc, g0, dcl, hy]
      refine callK_pl pellet_Far.call (f1 i) (pl3 (pld_CI _) pld_int pld_int) ?_
      simp -implicitDefEqProofs only [go_sem, Nat.reduceAdd, Nat.reduceEqDiff, Nat.reduceLT, reduceIte, reduceCtorEq, Int.reduceLE, Int.reduceLT, Int.reduceEq, Int.reduceAdd, Int.reduceMul, Int.reduceSub, Nat.reduceMul, Nat.reduceSub, Nat.reducePow, Nat.reduceLeDiff, Int.reduceToNat, DD, k1s, k6, k14, k15, k16, hP, gt_iff_lt, c1, c2, c4, c5, ci, hc, g0, dcl, hy]
      refine callK_q dyad_Sub.call (u1 i) rfl rfl ?_
      simp -implicitDefEqProofs only [go_sem, Nat.reduceAdd, Nat.reduceEqDiff, Nat.reduceLT, reduceIte, reduceCtorEq, Int.reduceLE, Int.reduceLT, Int.reduceEq, Int.reduceAdd, Int.reduceMul, Int.reduceSub, Nat.reduceMul, Nat.reduceSub, Nat.reducePow, Nat.reduceLeDiff, Int.reduceToNat, DD, k1s, k6, k14, k15, k16, hP, gt_iff_lt, c1, c2, c4, c5, ci, hc, g0, dcl, hy]
      refine callK_q dyad_Cmp.call (k1 i) rfl rfl ?_
      simp -implicitDefEqProofs only [go_sem, Nat.reduceAdd, Nat.reduceEqDiff, Nat.reduceLT, reduceIte, reduceCtorEq, Int.reduceLE, Int.reduceLT, Int.reduceEq, Int.reduceAdd, Int.reduceMul, Int.reduceSub, Nat.reduceMul, Nat.reduceSub, Nat.reducePow, Nat.reduceLeDiff, Int.reduceToNat, DD, k1s, k6, k14, k15, k16, hP, gt_iff_lt, c1, c2, c4, c5, ci, hc, g0, dcl, hy]
      exact ⟨d - (i + 1), by omega, _, _, i + 1, rfl, rfl, by omega, by simp [x_look, k1s], by simp [x_look, k6], by simp [x_look, k14], by simp [x_look, k15], by simp [x_look], by simp <;> omega, g0 _⟩
  · intro hno
    refine sat_of pellet_Any.ok (by simp) ?_
    simp -implicitDefEqProofs only [go_sem, Nat.reduceAdd, Nat.reduceEqDiff, Nat.reduceLT, reduceIte, reduceCtorEq, Int.reduceLE, Int.reduceLT, Int.reduceEq, Int.reduceAdd, Int.reduceMul, Int.reduceSub, Nat.reduceMul, Nat.reduceSub, Nat.reducePow, Nat.reduceLeDiff, Int.reduceToNat, Tryd.f35, DD]
    refine callK_pl poly_Trim.call (q) (pl1 (pld_sl hcs)) ?_
    simp -implicitDefEqProofs only [go_sem, Nat.reduceAdd, Nat.reduceEqDiff, Nat.reduceLT, reduceIte, reduceCtorEq, Int.reduceLE, Int.reduceLT, Int.reduceEq, Int.reduceAdd, Int.reduceMul, Int.reduceSub, Nat.reduceMul, Nat.reduceSub, Nat.reducePow, Nat.reduceLeDiff, Int.reduceToNat, DD, hP]
    refine callK_pl pellet_others.call (o1) (pl4 (pld_PA _ _) pld_int pld_int pld_int) ?_
    simp -implicitDefEqProofs only [go_sem, Nat.reduceAdd, Nat.reduceEqDiff, Nat.reduceLT, reduceIte, reduceCtorEq, Int.reduceLE, Int.reduceLT, Int.reduceEq, Int.reduceAdd, Int.reduceMul, Int.reduceSub, Nat.reduceMul, Nat.reduceSub, Nat.reducePow, Nat.reduceLeDiff, Int.reduceToNat, DD, hP]
    refine loop_of aW0_mono (fun q σ => ∃ sl H i, σ = ⟨sl, H⟩ ∧ q = d - i ∧ i ≤ d ∧ look sl 1 = I64 p ∧ look sl 6 = .ptr 0 0 ∧ look sl 14 = .sl d (pcl d f) ∧ look sl 15 = I64 (d : Nat) ∧ look sl 16 = I64 (i : Nat) ∧ 0 < H.length ∧ H.getD 0 ⟨[], false, false⟩ = ⟨dcl S, true, true⟩) ?_ (n := d)
      ⟨_, _, 0, rfl, rfl, Nat.zero_le _, by simp [x_look], by simp [x_look], by simp [x_look], by simp [x_look], by simp [x_look], by simp, rfl⟩
    rintro r _ ⟨sl, H, i, rfl, rfl, hi, k1s, k6, k14, k15, k16, hH, hg0⟩
    by_cases hid : i = d
    · subst hid
      simp -implicitDefEqProofs only [go_sem, Nat.reduceAdd, Nat.reduceEqDiff, Nat.reduceLT, reduceIte, reduceCtorEq, Int.reduceLE, Int.reduceLT, Int.reduceEq, Int.reduceAdd, Int.reduceMul, Int.reduceSub, Nat.reduceMul, Nat.reduceSub, Nat.reducePow, Nat.reduceLeDiff, Int.reduceToNat, DD, k1s, k6, k14, k15, k16, hP, gt_iff_lt, Int.lt_irrefl]
    · skip
      have c1 : (i : Int) < (d : Int) := by omega
      have ci : IntKind.i64.wrap ((i : Int) + 1) = ((i + 1 : Nat) : Int) := by rw [wrap_id (by omega)]; omega
      have c2 : (0 : Int) ≤ (i : Int) := by omega
      have c4 : i * 6 < (pcl d f).length := by rw [pcl_len]; omega
      have c5 : i * 6 + 6 ≤ (pcl d f).length := by rw [pcl_len]; omega
      have hc := pcl_el (n := d) f (show i < d by omega)
      have g0 : ∀ y, (H ++ [y]).getD 0 ⟨[], false, false⟩ = ⟨dcl S, true, true⟩ := fun y => by rw [getD_hp hH]; exact hg0
      have hy := hno i (by omega)
      simp -implicitDefEqProofs only [go_sem, Nat.reduceAdd, Nat.reduceEqDiff, Nat.reduceLT, reduceIte, reduceCtorEq, Int.reduceLE, Int.reduceLT, Int.reduceEq, Int.reduceAdd, Int.reduceMul, Int.reduceSub, Nat.reduceMul, Nat.reduceSub, Nat.reducePow, Nat.reduceLeDiff, Int.reduceToNat, DD, k1s, k6, k14, k15, k16, hP, gt_iff_lt, c1, c2, c4, c5, ci, hc, g0, dcl, hy]
      refine callK_pl pellet_Far.call (f0 i) (pl3 (pld_CI _) pld_int pld_int) ?_
      simp -implicitDefEqProofs only [go_sem, Nat.reduceAdd, Nat.reduceEqDiff, Nat.reduceLT, reduceIte, reduceCtorEq, Int.reduceLE, Int.reduceLT, Int.reduceEq, Int.reduceAdd, Int.reduceMul, Int.reduceSub, Nat.reduceMul, Nat.reduceSub, Nat.reducePow, Nat.reduceLeDiff, Int.reduceToNat, DD, k1s, k6, k14, k15, k16, hP, gt_iff_lt, c1, c2, c4, c5, ci, hc, g0, dcl, hy]
      refine callK_pl pellet_Far.call (f1 i) (pl3 (pld_CI _) pld_int pld_int) ?_
      simp -implicitDefEqProofs only [go_sem, Nat.reduceAdd, Nat.reduceEqDiff, Nat.reduceLT, reduceIte, reduceCtorEq, Int.reduceLE, Int.reduceLT, Int.reduceEq, Int.reduceAdd, Int.reduceMul, Int.reduceSub, Nat.reduceMul, Nat.reduceSub, Nat.reducePow, Nat.reduceLeDiff, Int.reduceToNat, DD, k1s, k6, k14, k15, k16, hP, gt_iff_lt, c1, c2, c4, c5, ci, hc, g0, dcl, hy]
      refine callK_q dyad_Sub.call (u1 i) rfl rfl ?_
      simp -implicitDefEqProofs only [go_sem, Nat.reduceAdd, Nat.reduceEqDiff, Nat.reduceLT, reduceIte, reduceCtorEq, Int.reduceLE, Int.reduceLT, Int.reduceEq, Int.reduceAdd, Int.reduceMul, Int.reduceSub, Nat.reduceMul, Nat.reduceSub, Nat.reducePow, Nat.reduceLeDiff, Int.reduceToNat, DD, k1s, k6, k14, k15, k16, hP, gt_iff_lt, c1, c2, c4, c5, ci, hc, g0, dcl, hy]
      refine callK_q dyad_Cmp.call (k1 i) rfl rfl ?_
      simp -implicitDefEqProofs only [go_sem, Nat.reduceAdd, Nat.reduceEqDiff, Nat.reduceLT, reduceIte, reduceCtorEq, Int.reduceLE, Int.reduceLT, Int.reduceEq, Int.reduceAdd, Int.reduceMul, Int.reduceSub, Nat.reduceMul, Nat.reduceSub, Nat.reducePow, Nat.reduceLeDiff, Int.reduceToNat, DD, k1s, k6, k14, k15, k16, hP, gt_iff_lt, c1, c2, c4, c5, ci, hc, g0, dcl, hy]
      exact ⟨d - (i + 1), by omega, _, _, i + 1, rfl, rfl, by omega, by simp [x_look, k1s], by simp [x_look, k6], by simp [x_look, k14], by simp [x_look, k15], by simp [x_look], by simp <;> omega, g0 _⟩
end Go.Ab
