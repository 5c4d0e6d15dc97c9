/- Contracts of this seat's functions (of each call: what it answers), walked over the abstract machine, and the laws of numbers that they want. Conditions: those that each theorem states. -/
import Derived.Test.YthkpbnbbhlpkjaaGreatDoorM5
set_option linter.unusedVariables false
set_option maxRecDepth 20000
set_option linter.unusedSimpArgs false
set_option linter.unusedSectionVars false
namespace Go.Ab
open Go.Proofs
open Cx (zero one)
attribute [-go_sem] appF newsF
variable {a b : AV} {x y r s t : Dyadic} {z w c d e : Cx} {B C B' C' n m : Nat}
/-! powers of discs -/
def tcl (c : Cx) (r : Dyadic) : List AV := [Bo (decide (dnum c.re < 0)), U32 (lim (dnum c.re).natAbs), I64 (dexp c.re), Bo (decide (dnum c.im < 0)), U32 (lim (dnum c.im).natAbs), I64 (dexp c.im), Bo (decide (dnum r < 0)), U32 (lim (dnum r).natAbs), I64 (dexp r)]
theorem pw_bound {B P k i : Nat} (hB : B ≤ 1320) (hP : P ≤ 200) (hk : k ≤ 5) (hi : i < k) : i * (B + 1) + 2 ≤ 5290 ∧ i * (B + P + 8) + 2 ≤ 7000 := by
  have h1 : i * (B + 1) ≤ 4 * 1321 := Nat.mul_le_mul (by omega) (by omega)
  have h2 : i * (B + P + 8) ≤ 4 * 1528 := Nat.mul_le_mul (by omega) (by omega)
  omega
theorem one10 : RC (CI (zI 1 0)) (zI 1 0) 2 := RC_C ⟨(DB.raw (m := 1) (e := 0) (L := 1) (E := 0) (by decide) (by decide) (by decide) : DB (dv 1 0) 2), (DB.raw (m := 0) (e := 0) (L := 1) (E := 0) (by decide) (by decide) (by decide) : DB (dv 0 0) 2)⟩
set_option maxHeartbeats 1000000 in
theorem dpow_s (h : RT a c r B B) (hB : B ≤ 1320) (k p : Int) (hk : k ≤ 5) (hp : heldP p ≤ 200) : Sat CT false 37 [a, I64 k, I64 p] (TI (cpw c k.toNat) (rpw c (rp r) (heldP p) k.toNat)) := by
  refine sat_of disc_Pow.ok (by simp) ?_
  have DD := disc_Pow.dr
  simp only [drP, drPx, drPt, drR, drS, drT, bodyOf, Tryz.f37, Nat.reduceEqDiff, reduceIte, true_and, and_true] at DD
  have g1 := gof_sat 1 0 (by decide) (by decide) (by decide) (by decide)
  have o1 := dofc_s one10 (by decide)
  have hP1 := (heldP_v p).2.2.1
  obtain ⟨K, hK⟩ : ∃ K, K = k.toNat := ⟨_, rfl⟩
  rw [← hK]
  have c0 : min (max k 0) 64 = (K : Int) := by omega
  have c00 : max k 0 = (K : Int) := by omega
  have c01 : min (K : Int) 64 = (K : Int) := by omega
  have hcb := h.cb
  have hrb := rp_db h.db
  have hrn := rp_nn r
  have mu := fun i (hi : i < K) => dmuls_s (RT_T (cpw_db hcb i) (rpw_db hcb hrb hP1 i)) h (pw_bound hB hp (by omega) hi).1 (by omega) (by have := (pw_bound hB hp (show K ≤ 5 by omega) hi).2; omega) (by omega) p (K := 14000) (by have := (pw_bound hB hp (show K ≤ 5 by omega) hi).1; omega) (by have := (pw_bound hB hp (show K ≤ 5 by omega) hi).2; omega) (by have := (pw_bound hB hp (show K ≤ 5 by omega) hi).2; omega) (by decide)
  have mu2 : ∀ i, i < K → Sat CT false 35 [TI (cpw c i) (rpw c (rp r) (heldP p) i), a, I64 p] (TI (cpw c (i + 1)) (rpw c (rp r) (heldP p) (i + 1))) := fun i hi => by
    have q := mu i hi
    rw [rp_id (rpw_nn hrn hP1 i)] at q
    exact q
  clear mu
  obtain ⟨n, l, e, m, k', f, o, p', q, rfl, _, _⟩ := h.ex
  clear h
  unfold TI zI at o1
  simp -implicitDefEqProofs only [go_sem, simprocAttr, -Int.reducePow, Tryz.f37, DD, c00, c01, List.take_succ_cons, List.drop_succ_cons]
  refine callK_q gauss_Of.call (g1) rfl rfl ?_
  simp -implicitDefEqProofs only [go_sem, simprocAttr, -Int.reducePow, DD, c00, c01, List.take_succ_cons, List.drop_succ_cons]
  refine callK_q disc_Of.call (o1) rfl rfl ?_
  simp -implicitDefEqProofs only [go_sem, simprocAttr, -Int.reducePow, DD, c00, c01, List.take_succ_cons, List.drop_succ_cons]
  refine loop_of aW0_mono (fun u σ => ∃ sl H i, σ = ⟨sl, H⟩ ∧ u = K - i ∧ i ≤ K ∧ look sl 2 = I64 p ∧ look sl 3 = .ptr 0 0 ∧ look sl 6 = .ptr 1 0 ∧ look sl 7 = .ptr 2 0 ∧ look sl 12 = I64 (K : Nat) ∧ look sl 13 = I64 (i : Nat) ∧ 2 < H.length ∧ H.getD 0 ⟨[], false, false⟩ = ⟨[Bo n, U32 l, I64 e, Bo m, U32 k', I64 f, Bo o, U32 p', I64 q], true, true⟩ ∧ (∃ zz, H.getD 1 ⟨[], false, false⟩ = ⟨zz, true, true⟩ ∧ zz.length = 9) ∧ H.getD 2 ⟨[], false, false⟩ = ⟨tcl (cpw c i) (rpw c (rp r) (heldP p) i), true, true⟩) ?_ (n := K)
    ⟨_, _, 0, rfl, rfl, Nat.zero_le _, by simp [x_look], by simp [x_look], by simp [x_look], by simp [x_look], by simp [x_look], by simp [x_look], by simp, rfl, ⟨_, rfl, rfl⟩, rfl⟩
  rintro u _ ⟨sl, H, i, rfl, rfl, hi, k2, k3, k6, k7, k12, k13, hH, hg0, ⟨zz, hg1, hz⟩, hg2⟩
  have hz9 : 9 ≤ zz.length := by omega
  by_cases hid : i = K
  · subst hid
    have gs : ∀ x, (H.set 1 x).getD 1 ⟨[], false, false⟩ = x := fun x => by rw [getD_set (by omega), if_pos rfl]
    simp -implicitDefEqProofs only [go_sem, simprocAttr, -Int.reducePow, DD, k2, k3, k6, k7, k12, k13, hg0, hg1, hg2, Int.lt_irrefl, tcl, hz, hz9, gs, TI]
  · have c1 : (i : Int) < (K : Int) := by omega
    have ci : IntKind.i64.wrap ((i : Int) + 1) = ((i + 1 : Nat) : Int) := by rw [wrap_id (by omega)]; omega
    have m1 := mu2 i (by omega)
    unfold TI at m1
    simp -implicitDefEqProofs only [go_sem, simprocAttr, -Int.reducePow, DD, k2, k3, k6, k7, k12, k13, hg0, hg1, hg2, c1, ci, tcl, hz]
    refine callK_q disc_Mul.call (m1) rfl rfl ?_
    simp -implicitDefEqProofs only [go_sem, simprocAttr, -Int.reducePow, DD, k2, k3, k6, k7, k12, k13, hg0, hg1, hg2, c1, ci, tcl, hz]
    exact ⟨K - (i + 1), by omega, _, _, i + 1, rfl, rfl, by omega, by simp [x_look, k2], by simp [x_look, k3], by simp [x_look, k6], by simp [x_look, k7], by simp [x_look, k12], by simp [x_look], by simp <;> omega, by rw [getD_set (by omega), if_neg (by decide)]; exact hg0, ⟨zz, by rw [getD_set (by omega), if_neg (by decide)]; exact hg1, hz⟩, by (rw [getD_set (by omega), if_pos rfl]) <;> rfl⟩
set_option maxHeartbeats 1000000 in
theorem fpow_s (hc : CB c B) (hr : DB r B) (hrn : 0 ≤ r.toRat) (hB : B ≤ 1320) (k p : Int) (hk : k ≤ 5) (hp : heldP p ≤ 200) : Sat CT false 38 [TI c r, I64 k, I64 p] (TI (cpw c k.toNat) (rpw c r (heldP p) k.toNat)) := by
  refine sat_of annulusref8_PowDisc.ok (by simp) ?_
  have DD := annulusref8_PowDisc.dr
  simp only [drP, drPx, drPt, drR, drS, drT, bodyOf, Tryz.f38, Nat.reduceEqDiff, reduceIte, true_and, and_true] at DD
  have g1 := rof8_sat 1 0 (by decide) (by decide) (by decide) (by decide)
  have hP1 := (heldP_v p).2.2.1
  obtain ⟨K, hK⟩ : ∃ K, K = k.toNat := ⟨_, rfl⟩
  rw [← hK]
  have mu : ∀ i, i < K → Sat CT false 36 [TI (cpw c i) (rpw c r (heldP p) i), TI c r, I64 p] (TI (cpw c (i + 1)) (rpw c r (heldP p) (i + 1))) := fun i hi => by
    obtain ⟨b1, b2⟩ := pw_bound hB hp (show K ≤ 5 by omega) hi
    exact fmul_s (cpw_db hc i) (rpw_db hc hr hP1 i) hc hr b1 (by omega) (by omega) (by omega) p (by omega) (K := 14000) (by omega) (by omega) (by omega) (by decide)
  have z0 : tcl (cpw c 0) (rpw c r (heldP p) 0) = [Bo (decide (dnum (dv 1 0) < 0)), U32 (lim (dnum (dv 1 0)).natAbs), I64 (dexp (dv 1 0)), Bo (decide (dnum (dv 0 0) < 0)), U32 (lim (dnum (dv 0 0)).natAbs), I64 (dexp (dv 0 0)), Bo false, U32 [], I64 0] := by
    show [_, _, _, _, _, _, Bo (decide (dnum (0 : Dyadic) < 0)), U32 (lim (dnum (0 : Dyadic)).natAbs), I64 (dexp (0 : Dyadic))] = _
    rw [z0a, z0b, de0]
    rfl
  simp -implicitDefEqProofs only [go_sem, simprocAttr, -Int.reducePow, Tryz.f38, DD, TI, List.take_succ_cons, List.drop_succ_cons]
  refine callK_q annulusref8_Of.call (g1) rfl rfl ?_
  simp -implicitDefEqProofs only [go_sem, simprocAttr, -Int.reducePow, DD, TI, List.take_succ_cons, List.drop_succ_cons]
  refine loop_of aW0_mono (fun u σ => ∃ sl H i oc, σ = ⟨sl, H⟩ ∧ u = K - i ∧ i ≤ K ∧ look sl 1 = I64 k ∧ look sl 2 = I64 p ∧ look sl 3 = .ptr 0 0 ∧ look sl 6 = .ptr 1 0 ∧ look sl 7 = .ptr 2 0 ∧ look sl 8 = I64 (i : Nat) ∧ 2 < H.length ∧ H.getD 0 ⟨[], false, false⟩ = ⟨tcl c r, true, true⟩ ∧ (∃ zz, H.getD 1 ⟨[], false, false⟩ = ⟨zz, true, true⟩ ∧ zz.length = 9) ∧ H.getD 2 ⟨[], false, false⟩ = ⟨oc, true, true⟩ ∧ (oc = tcl (cpw c i) (rpw c r (heldP p) i) ∨ i = 0 ∧ oc = [Bo (decide (dnum (dv 1 0) < 0)), U32 (lim (dnum (dv 1 0)).natAbs), I64 (dexp (dv 1 0)), Bo (decide (dnum (dv 0 0) < 0)), U32 (lim (dnum (dv 0 0)).natAbs), I64 (dexp (dv 0 0)), Bo false, .v (.slice none 0 0), I64 0])) ?_ (n := K)
    ⟨_, _, 0, _, rfl, rfl, Nat.zero_le _, by simp [x_look], by simp [x_look], by simp [x_look], by simp [x_look], by simp [x_look], by simp [x_look], by simp, rfl, ⟨_, rfl, rfl⟩, rfl, .inr ⟨rfl, rfl⟩⟩
  rintro u _ ⟨sl, H, i, oc, rfl, rfl, hi, k1, k2, k3, k6, k7, k8, hH, hg0, ⟨zz, hg1, hz⟩, hg2, ho⟩
  have hz9 : 9 ≤ zz.length := by omega
  by_cases hid : i = K
  · have gs : ∀ x, (H.set 1 x).getD 1 ⟨[], false, false⟩ = x := fun x => by rw [getD_set (by omega), if_pos rfl]
    have c1 : ¬ (i : Int) < min k 64 := by omega
    rw [← hid]
    rcases ho with rfl | ⟨h0, rfl⟩
    · simp -implicitDefEqProofs only [go_sem, simprocAttr, -Int.reducePow, DD, k1, k2, k3, k6, k7, k8, hg0, hg1, hg2, c1, tcl, hz, hz9, gs, TI]
    · have e1 : rpw c r (heldP p) i = 0 := by rw [h0]; rfl
      have e2 : (cpw c i).re = dv 1 0 := by rw [h0]; rfl
      have e3 : (cpw c i).im = dv 0 0 := by rw [h0]; rfl
      simp -implicitDefEqProofs only [go_sem, simprocAttr, -Int.reducePow, DD, k1, k2, k3, k6, k7, k8, hg0, hg1, hg2, c1, tcl, hz, hz9, gs, TI, e1, e2, e3, z0a, z0b, de0]
      rfl
  · have c1 : (i : Int) < min k 64 := by omega
    have ci : IntKind.i64.wrap ((i : Int) + 1) = ((i + 1 : Nat) : Int) := by rw [wrap_id (by omega)]; omega
    have m1 := mu i (by omega)
    rcases ho with rfl | ⟨h0, rfl⟩
    · unfold TI at m1
      simp -implicitDefEqProofs only [go_sem, simprocAttr, -Int.reducePow, DD, k1, k2, k3, k6, k7, k8, hg0, hg1, hg2, c1, ci, tcl, hz]
      refine callK_q annulusref8_MulDisc.call (m1) rfl rfl ?_
      simp -implicitDefEqProofs only [go_sem, simprocAttr, -Int.reducePow, DD, k1, k2, k3, k6, k7, k8, hg0, hg1, hg2, c1, ci, tcl, hz]
      exact ⟨K - (i + 1), by omega, _, _, i + 1, _, rfl, rfl, by omega, by simp [x_look, k1], by simp [x_look, k2], by simp [x_look, k3], by simp [x_look, k6], by simp [x_look, k7], by simp [x_look], by simp <;> omega, by rw [getD_set (by omega), if_neg (by decide)]; exact hg0, ⟨zz, by rw [getD_set (by omega), if_neg (by decide)]; exact hg1, hz⟩, by (rw [getD_set (by omega), if_pos rfl]) <;> rfl, .inl rfl⟩
    · have e0 : TI (cpw c i) (rpw c r (heldP p) i) = .agg (tcl (cpw c 0) (rpw c r (heldP p) 0)) := by rw [h0]; rfl
      rw [e0, z0] at m1
      unfold TI at m1
      simp -implicitDefEqProofs only [go_sem, simprocAttr, -Int.reducePow, DD, k1, k2, k3, k6, k7, k8, hg0, hg1, hg2, c1, ci, tcl, hz]
      refine callK_q annulusref8_MulDisc.call (m1) rfl rfl ?_
      simp -implicitDefEqProofs only [go_sem, simprocAttr, -Int.reducePow, DD, k1, k2, k3, k6, k7, k8, hg0, hg1, hg2, c1, ci, tcl, hz]
      exact ⟨K - (i + 1), by omega, _, _, i + 1, _, rfl, rfl, by omega, by simp [x_look, k1], by simp [x_look, k2], by simp [x_look, k3], by simp [x_look, k6], by simp [x_look, k7], by simp [x_look], by simp <;> omega, by rw [getD_set (by omega), if_neg (by decide)]; exact hg0, ⟨zz, by rw [getD_set (by omega), if_neg (by decide)]; exact hg1, hz⟩, by (rw [getD_set (by omega), if_pos rfl]) <;> rfl, .inl rfl⟩
set_option maxHeartbeats 1000000 in
theorem fpw8_s (hc : CB c B) (hB : B ≤ 1320) (k : Int) (hk : k ≤ 5) : Sat CT false 51 [CI c, I64 k] (CI (cpw c k.toNat)) := by
  refine sat_of annulusref8_Pow.ok (by simp) ?_
  have DD := annulusref8_Pow.dr
  simp only [drP, drPx, drPt, drR, drS, drT, bodyOf, Tryz.f51, Nat.reduceEqDiff, reduceIte, true_and, and_true] at DD
  have g1 := rof8_sat 1 0 (by decide) (by decide) (by decide) (by decide)
  obtain ⟨K, hK⟩ : ∃ K, K = k.toNat := ⟨_, rfl⟩
  rw [← hK]
  have mu : ∀ i, i < K → Sat CT false 52 [CI (cpw c i), CI c] (CI (cpw c (i + 1))) := fun i hi => by
    obtain ⟨b1, b2⟩ := pw_bound hB (P := 0) (by decide) (show K ≤ 5 by omega) hi
    exact rmul8 (cpw_db hc i) hc (by omega)
  simp -implicitDefEqProofs only [go_sem, simprocAttr, -Int.reducePow, Tryz.f51, DD, List.take_succ_cons, List.drop_succ_cons]
  refine callK_q annulusref8_Of.call (g1) rfl rfl ?_
  simp -implicitDefEqProofs only [go_sem, simprocAttr, -Int.reducePow, DD, List.take_succ_cons, List.drop_succ_cons]
  refine loop_of aW0_mono (fun u σ => ∃ sl H i, σ = ⟨sl, H⟩ ∧ u = K - i ∧ i ≤ K ∧ look sl 1 = I64 k ∧ look sl 2 = .ptr 0 0 ∧ look sl 4 = .ptr 1 0 ∧ look sl 5 = .ptr 2 0 ∧ look sl 6 = I64 (i : Nat) ∧ 2 < H.length ∧ H.getD 0 ⟨[], false, false⟩ = ⟨CIc c, true, true⟩ ∧ (∃ zz, H.getD 1 ⟨[], false, false⟩ = ⟨zz, true, true⟩ ∧ zz.length = 6) ∧ H.getD 2 ⟨[], false, false⟩ = ⟨CIc (cpw c i), true, true⟩) ?_ (n := K)
    ⟨_, _, 0, rfl, rfl, Nat.zero_le _, by simp [x_look], by simp [x_look], by simp [x_look], by simp [x_look], by simp [x_look], by simp, rfl, ⟨_, rfl, rfl⟩, rfl⟩
  rintro u _ ⟨sl, H, i, rfl, rfl, hi, k1, k2, k4, k5, k6, hH, hg0, ⟨zz, hg1, hz⟩, hg2⟩
  have hz9 : 6 ≤ zz.length := by omega
  by_cases hid : i = K
  · have gs : ∀ x, (H.set 1 x).getD 1 ⟨[], false, false⟩ = x := fun x => by rw [getD_set (by omega), if_pos rfl]
    have c1 : ¬ (i : Int) < min k 64 := by omega
    rw [← hid]
    simp -implicitDefEqProofs only [go_sem, simprocAttr, -Int.reducePow, DD, k1, k2, k4, k5, k6, hg0, hg1, hg2, c1, CIc, hz, hz9, gs]
  · have c1 : (i : Int) < min k 64 := by omega
    have ci : IntKind.i64.wrap ((i : Int) + 1) = ((i + 1 : Nat) : Int) := by rw [wrap_id (by omega)]; omega
    have m1 := mu i (by omega)
    simp -implicitDefEqProofs only [go_sem, simprocAttr, -Int.reducePow, DD, k1, k2, k4, k5, k6, hg0, hg1, hg2, c1, ci, CIc, hz]
    refine callK_q annulusref8_Mul.call (m1) rfl rfl ?_
    simp -implicitDefEqProofs only [go_sem, simprocAttr, -Int.reducePow, DD, k1, k2, k4, k5, k6, hg0, hg1, hg2, c1, ci, CIc, hz]
    exact ⟨K - (i + 1), by omega, _, _, i + 1, rfl, rfl, by omega, by simp [x_look, k1], by simp [x_look, k2], by simp [x_look, k4], by simp [x_look, k5], by simp [x_look], by simp <;> omega, by rw [getD_set (by omega), if_neg (by decide)]; exact hg0, ⟨zz, by rw [getD_set (by omega), if_neg (by decide)]; exact hg1, hz⟩, by (rw [getD_set (by omega), if_pos rfl]) <;> rfl⟩
end Go.Ab
