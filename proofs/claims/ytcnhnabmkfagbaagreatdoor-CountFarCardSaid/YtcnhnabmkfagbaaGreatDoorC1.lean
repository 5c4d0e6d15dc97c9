/- Contracts of this seat's functions (of each call: what it answers), walked over the abstract machine, and the laws of numbers that they want. Conditions: those that each theorem states. -/
import Derived.Test.YtcnhnabmkfagbaaGreatDoorMM
import Derived.Test.YtcnhnabmkfagbaaGreatDoorS1
set_option linter.unusedVariables false
set_option maxRecDepth 20000
set_option linter.unusedSimpArgs false
set_option linter.unusedSectionVars false
namespace Go.Ab
open Go.Proofs
open Cx (zero one)
attribute [-go_sem] appF newsF
variable {a b : AV} {z w : Cx} {B C n m d : Nat} {cs ds : List AV} {f g : Po}
/-! tests for greater points: of the code, of the document -/
theorem far_dbB (h : CB z B) (hB : B ≤ 12045) {P : Nat} (hP1 : 1 ≤ P) (hP : P ≤ 400) (up : Bool) : DB (far z P up) 14200 := (far_db2 h hP1 up).mono (by omega)
theorem osum_dbB (h : PB f B) (hB : B ≤ 12045) (k : Int) {P : Nat} (hP1 : 1 ≤ P) (hP : P ≤ 400) (up : Bool) : ∀ i, DB (osum f k P up i) (14200 + i)
  | 0 => DB.zero _
  | i + 1 => by
    have ih := osum_dbB h hB k hP1 hP up i
    unfold osum
    split
    · exact ih.mono (by omega)
    · exact ih.add ((far_dbB (h i) hB hP1 hP up).mono (by omega))
theorem far_sB (hz : RC a z B) (hB : B ≤ 12045) (p m : Int) : Sat CT false 62 [a, I64 p, I64 m] (DI (far z (heldP p) (decide (m = 1)))) := by
  refine sat_of pellet_Far.ok (by simp) ?_
  have DD := pellet_Far.dr
  simp only [drP, drPx, drPt, drR, drS, drT, bodyOf, Tryz.f62, Nat.reduceEqDiff, reduceIte, true_and, and_true] at DD
  have g1 := gnorm_r hz (by omega)
  have hn := nrm_db hz.cb
  obtain ⟨n, l, e, m', k, g, rfl, h1, h2⟩ := hz
  by_cases q : dnum (nrm z) ≤ 0
  · have r1 := qroot_n (RD_D hn) q (by omega) p m
    rw [show far z (heldP p) (decide (m = 1)) = 0 from droot_0 q _ _, DI_0]
    simp -implicitDefEqProofs only [go_sem, simprocAttr, -Int.reducePow, Tryz.f62, DD]
    refine callK_q gauss_Norm.call (g1) rfl rfl ?_
    simp -implicitDefEqProofs only [go_sem, simprocAttr, -Int.reducePow, DD]
    refine callK_q quot_Root.call (r1) rfl rfl ?_
    simp -implicitDefEqProofs only [go_sem, simprocAttr, -Int.reducePow, DD, QZ]
    rfl
  · have r1 := qroot_ok (RD_D hn) (Int.not_le.1 q) (by omega) p m
    rw [show far z (heldP p) (decide (m = 1)) = droot (nrm z) (heldP p) (decide (m = 1)) from rfl]
    simp -implicitDefEqProofs only [go_sem, simprocAttr, -Int.reducePow, Tryz.f62, DD]
    refine callK_q gauss_Norm.call (g1) rfl rfl ?_
    simp -implicitDefEqProofs only [go_sem, simprocAttr, -Int.reducePow, DD]
    refine callK_q quot_Root.call (r1) rfl rfl ?_
    simp -implicitDefEqProofs only [go_sem, simprocAttr, -Int.reducePow, DD]
theorem others_sB (h : RP cs n f B) (hB : B ≤ 12045) (hn : n ≤ 1000) (k p m : Int) (hp : heldP p ≤ 400) : Sat CT false 60 [.sl n cs, I64 k, I64 p, I64 m] (DI (osum f k (heldP p) (decide (m = 1)) n)) := by
  refine sat_of pellet_others.ok (by simp) ?_
  have DD := pellet_others.dr
  simp only [drP, drPx, drPt, drR, drS, drT, bodyOf, Tryz.f60, Nat.reduceEqDiff, reduceIte, true_and, and_true] at DD
  have hlen := h.len
  have hP1 := (heldP_v p).2.2.1
  have hDB := osum_dbB h.pb hB k hP1 hp (decide (m = 1))
  simp -implicitDefEqProofs only [go_sem, simprocAttr, -Int.reducePow, Tryz.f60, DD]
  refine scope0 aW0_mono ?_
  simp -implicitDefEqProofs only [go_sem, simprocAttr, -Int.reducePow, DD]
  refine loop_of aW0_mono (fun q σ => ∃ sl H i oc, σ = ⟨sl, H⟩ ∧ q = n - i ∧ i ≤ n ∧ look sl 1 = I64 k ∧ look sl 2 = I64 p ∧ look sl 3 = I64 m ∧ look sl 8 = .ptr 0 0 ∧ look sl 9 = .ptr 1 0 ∧ look sl 12 = .sl n cs ∧ look sl 13 = I64 (n : Nat) ∧ look sl 14 = I64 (i : Nat) ∧ 1 < H.length ∧ H.getD 0 ⟨[], false, false⟩ = ⟨zc3, true, true⟩ ∧ H.getD 1 ⟨[], false, false⟩ = ⟨oc, true, true⟩ ∧ (oc = zc3 ∧ osum f k (heldP p) (decide (m = 1)) i = 0 ∨ oc = dcl (osum f k (heldP p) (decide (m = 1)) i))) ?_ (n := n)
    ⟨_, _, 0, zc3, rfl, rfl, Nat.zero_le _, by simp [x_look], by simp [x_look], by simp [x_look], by simp [x_look], by simp [x_look], by simp [x_look], by simp [x_look], by simp [x_look], by simp, rfl, rfl, .inl ⟨rfl, rfl⟩⟩
  rintro q _ ⟨sl, H, i, oc, rfl, rfl, hi, k1, k2, k3, k8, k9, k12, k13, k14, hH, hg0, hg1, ho⟩
  by_cases hid : i = n
  · subst hid
    have gs : ∀ x, (H.set 0 x).getD 0 ⟨[], false, false⟩ = x := fun x => by rw [getD_set (by omega), if_pos rfl]
    rcases ho with ⟨rfl, e0⟩ | rfl
    · rw [e0]
      simp -implicitDefEqProofs only [go_sem, simprocAttr, -Int.reducePow, DD, k1, k2, k3, k8, k9, k12, k13, k14, hg0, hg1, Int.lt_irrefl, zc3, gs, z0a, z0b, de0]
      rfl
    · simp -implicitDefEqProofs only [go_sem, simprocAttr, -Int.reducePow, DD, k1, k2, k3, k8, k9, k12, k13, k14, hg0, hg1, Int.lt_irrefl, zc3, dcl, gs]
  · have c1 : (i : Int) < (n : Int) := by omega
    have ci : IntKind.i64.wrap ((i : Int) + 1) = ((i + 1 : Nat) : Int) := by rw [wrap_id (by omega)]; omega
    have c2 : (0 : Int) ≤ (i : Int) := by omega
    have c4 : i * 6 < cs.length := by omega
    have c5 : i * 6 + 6 ≤ cs.length := by omega
    obtain ⟨s, l, e, t, kk, gg, hc, hr⟩ := h.cells (i := i) (by omega)
    have f1 := far_sB hr hB p m
    have g0 : ∀ y, (H ++ [y]).getD 0 ⟨[], false, false⟩ = ⟨zc3, true, true⟩ := fun y => by rw [getD_hp (by omega)]; exact hg0
    have g1 : ∀ y, (H ++ [y]).getD 1 ⟨[], false, false⟩ = ⟨oc, true, true⟩ := fun y => by rw [getD_hp hH]; exact hg1
    by_cases hk : (i : Int) = k
    · have eS : osum f k (heldP p) (decide (m = 1)) (i + 1) = osum f k (heldP p) (decide (m = 1)) i := if_pos hk
      subst hk
      simp -implicitDefEqProofs only [go_sem, simprocAttr, -Int.reducePow, DD, k1, k2, k3, k8, k9, k12, k13, k14, c1, c2, c4, c5, ci, hc, eq_self]
      exact ⟨n - (i + 1), by omega, _, _, i + 1, oc, rfl, rfl, by omega, by simp [x_look, k1], by simp [x_look, k2], by simp [x_look, k3], by simp [x_look, k8], by simp [x_look, k9], by simp [x_look, k12], by simp [x_look, k13], by simp [x_look], by simp; omega, g0 _, g1 _, by rw [eS]; exact ho⟩
    · have eS : osum f k (heldP p) (decide (m = 1)) (i + 1) = osum f k (heldP p) (decide (m = 1)) i + far (f i) (heldP p) (decide (m = 1)) := if_neg hk
      have a1 := dadd_r (RD_D ((hDB i).mono (C := 15200) (by omega))) (RD_D (far_dbB (h.pb i) hB hP1 hp (decide (m = 1)))) (by decide) (by decide)
      rw [← eS] at a1
      rcases ho with ⟨rfl, e0⟩ | rfl
      · rw [e0, DI_0] at a1
        simp -implicitDefEqProofs only [go_sem, simprocAttr, -Int.reducePow, DD, k1, k2, k3, k8, k9, k12, k13, k14, c1, c2, c4, c5, ci, hc, hk, g0, g1, zc3]
        refine callK_q pellet_Far.call (f1) rfl rfl ?_
        simp -implicitDefEqProofs only [go_sem, simprocAttr, -Int.reducePow, DD, k1, k2, k3, k8, k9, k12, k13, k14, c1, c2, c4, c5, ci, hc, hk, g0, g1, zc3]
        refine callK_q dyad_Add.call (a1) rfl rfl ?_
        simp -implicitDefEqProofs only [go_sem, simprocAttr, -Int.reducePow, DD, k1, k2, k3, k8, k9, k12, k13, k14, c1, c2, c4, c5, ci, hc, hk, g0, g1, zc3]
        exact ⟨n - (i + 1), by omega, _, _, i + 1, _, rfl, rfl, by omega, by simp [x_look, k1], by simp [x_look, k2], by simp [x_look, k3], by simp [x_look, k8], by simp [x_look, k9], by simp [x_look, k12], by simp [x_look, k13], by simp [x_look], by simp <;> omega, by rw [getD_set (by simp <;> omega), if_neg (by decide)]; exact g0 _, by (rw [getD_set (by simp <;> omega), if_pos rfl]) <;> rfl, .inr rfl⟩
      · simp -implicitDefEqProofs only [go_sem, simprocAttr, -Int.reducePow, DD, k1, k2, k3, k8, k9, k12, k13, k14, c1, c2, c4, c5, ci, hc, hk, g0, g1, dcl]
        refine callK_q pellet_Far.call (f1) rfl rfl ?_
        simp -implicitDefEqProofs only [go_sem, simprocAttr, -Int.reducePow, DD, k1, k2, k3, k8, k9, k12, k13, k14, c1, c2, c4, c5, ci, hc, hk, g0, g1, dcl]
        refine callK_q dyad_Add.call (a1) rfl rfl ?_
        simp -implicitDefEqProofs only [go_sem, simprocAttr, -Int.reducePow, DD, k1, k2, k3, k8, k9, k12, k13, k14, c1, c2, c4, c5, ci, hc, hk, g0, g1, dcl]
        exact ⟨n - (i + 1), by omega, _, _, i + 1, _, rfl, rfl, by omega, by simp [x_look, k1], by simp [x_look, k2], by simp [x_look, k3], by simp [x_look, k8], by simp [x_look, k9], by simp [x_look, k12], by simp [x_look, k13], by simp [x_look], by simp <;> omega, by rw [getD_set (by simp <;> omega), if_neg (by decide)]; exact g0 _, by (rw [getD_set (by simp <;> omega), if_pos rfl]) <;> rfl, .inr rfl⟩
theorem any_sB (h : RP cs n f B) (hB : B ≤ 12045) (hcs : ∀ c ∈ cs, IsD c) (hn : n ≤ 1000) (p : Int) (hp : heldP p ≤ 400) :
    (∀ j, j < dg n f → (∀ i, i < j → ¬ aYes f (dg n f) i (heldP p)) → aYes f (dg n f) j (heldP p) → Sat CT false 36 [.sl n cs, I64 p] (.tup [I64 (j : Nat), Bo true])) ∧
    ((∀ i, i < dg n f → ¬ aYes f (dg n f) i (heldP p)) → Sat CT false 36 [.sl n cs, I64 p] (.tup [I64 (-1), Bo false])) := by
  have DD := pellet_Any.dr
  simp only [drP, drPx, drPt, drR, drS, drT, bodyOf, Tryz.f36, Nat.reduceEqDiff, reduceIte, true_and, and_true] at DD
  have hd := dg_le n f
  have q := ptrim_s h (by omega)
  have hP : PA (dg n f) f = .sl (dg n f) (pcl (dg n f) f) := rfl
  have hP1 := (heldP_v p).2.2.1
  have rp : RP (pcl (dg n f) f) (dg n f) f B := RP_P h.pb (dg_sp h.sp) (by omega)
  unfold aYes dsg
  generalize dg n f = d at *
  have f0 := fun k => far_sB (RC_C (h.pb k)) hB p 0
  have f1 := fun k => far_sB (RC_C (h.pb k)) hB p 1
  have o1 := others_sB rp hB (by omega) (-1) p 1 hp
  rw [show decide ((1 : Int) = 1) = true from rfl] at o1 f1
  rw [show decide ((0 : Int) = 1) = false from rfl] at f0
  have b0 := fun k => far_dbB (h.pb k) hB hP1 hp false
  have b1 := fun k => far_dbB (h.pb k) hB hP1 hp true
  have v1 := (osum_dbB h.pb hB (-1) hP1 hp true d).mono (C := 15200) (by omega)
  generalize osum f (-1) (heldP p) true d = S at *
  have u1 := fun k => dsub_r (RD_D v1) (RD_D (b1 k)) (by decide) (by decide)
  have k1 := fun k => dcmp_r (RD_D (b0 k)) (RD_D (v1.sub ((b1 k).mono (C := 15200) (by decide)))) (by decide) (by decide)
  constructor
  · intro j hj hno hyes
    refine sat_of pellet_Any.ok (by simp) ?_
    simp -implicitDefEqProofs only [go_sem, simprocAttr, -Int.reducePow, Tryz.f36, DD]
    refine callK_pl poly_Trim.call (q) (pl1 (pld_sl hcs)) ?_
    simp -implicitDefEqProofs only [go_sem, simprocAttr, -Int.reducePow, DD, hP]
    refine callK_pl pellet_others.call (o1) (pl4 (pld_PA _ _) pld_int pld_int pld_int) ?_
    simp -implicitDefEqProofs only [go_sem, simprocAttr, -Int.reducePow, DD, hP]
    refine loop_of aW0_mono (fun q σ => ∃ sl H i, σ = ⟨sl, H⟩ ∧ q = d - i ∧ i ≤ j ∧ look sl 1 = I64 p ∧ look sl 6 = .ptr 0 0 ∧ look sl 14 = .sl d (pcl d f) ∧ look sl 15 = I64 (d : Nat) ∧ look sl 16 = I64 (i : Nat) ∧ 0 < H.length ∧ H.getD 0 ⟨[], false, false⟩ = ⟨dcl S, true, true⟩) ?_ (n := d)
      ⟨_, _, 0, rfl, rfl, Nat.zero_le _, by simp [x_look], by simp [x_look], by simp [x_look], by simp [x_look], by simp [x_look], by simp, rfl⟩
    rintro r _ ⟨sl, H, i, rfl, rfl, hi, k1s, k6, k14, k15, k16, hH, hg0⟩
    have c1 : (i : Int) < (d : Int) := by omega
    have ci : IntKind.i64.wrap ((i : Int) + 1) = ((i + 1 : Nat) : Int) := by rw [wrap_id (by omega)]; omega
    have c2 : (0 : Int) ≤ (i : Int) := by omega
    have c4 : i * 6 < (pcl d f).length := by rw [pcl_len]; omega
    have c5 : i * 6 + 6 ≤ (pcl d f).length := by rw [pcl_len]; omega
    have hc := pcl_el (n := d) f (show i < d by omega)
    have g0 : ∀ y, (H ++ [y]).getD 0 ⟨[], false, false⟩ = ⟨dcl S, true, true⟩ := fun y => by rw [getD_hp hH]; exact hg0
    by_cases hij : i = j
    · subst hij
      have hy := hyes
      simp -implicitDefEqProofs only [go_sem, simprocAttr, -Int.reducePow, DD, k1s, k6, k14, k15, k16, hP, gt_iff_lt, c1, c2, c4, c5, ci, hc, g0, dcl, hy]
      refine callK_pl pellet_Far.call (f0 i) (pl3 (pld_CI _) pld_int pld_int) ?_
      simp -implicitDefEqProofs only [go_sem, simprocAttr, -Int.reducePow, DD, k1s, k6, k14, k15, k16, hP, gt_iff_lt, c1, c2, c4, c5, ci, hc, g0, dcl, hy]
      refine callK_pl pellet_Far.call (f1 i) (pl3 (pld_CI _) pld_int pld_int) ?_
      simp -implicitDefEqProofs only [go_sem, simprocAttr, -Int.reducePow, DD, k1s, k6, k14, k15, k16, hP, gt_iff_lt, c1, c2, c4, c5, ci, hc, g0, dcl, hy]
      refine callK_q dyad_Sub.call (u1 i) rfl rfl ?_
      simp -implicitDefEqProofs only [go_sem, simprocAttr, -Int.reducePow, DD, k1s, k6, k14, k15, k16, hP, gt_iff_lt, c1, c2, c4, c5, ci, hc, g0, dcl, hy]
      refine callK_q dyad_Cmp.call (k1 i) rfl rfl ?_
      simp -implicitDefEqProofs only [go_sem, simprocAttr, -Int.reducePow, DD, k1s, k6, k14, k15, k16, hP, gt_iff_lt, c1, c2, c4, c5, ci, hc, g0, dcl, hy]
    · have hy := hno i (by omega)
      simp -implicitDefEqProofs only [go_sem, simprocAttr, -Int.reducePow, DD, k1s, k6, k14, k15, k16, hP, gt_iff_lt, c1, c2, c4, c5, ci, hc, g0, dcl, hy]
      refine callK_pl pellet_Far.call (f0 i) (pl3 (pld_CI _) pld_int pld_int) ?_
      simp -implicitDefEqProofs only [go_sem, simprocAttr, -Int.reducePow, DD, k1s, k6, k14, k15, k16, hP, gt_iff_lt, c1, c2, c4, c5, ci, hc, g0, dcl, hy]
      refine callK_pl pellet_Far.call (f1 i) (pl3 (pld_CI _) pld_int pld_int) ?_
      simp -implicitDefEqProofs only [go_sem, simprocAttr, -Int.reducePow, DD, k1s, k6, k14, k15, k16, hP, gt_iff_lt, c1, c2, c4, c5, ci, hc, g0, dcl, hy]
      refine callK_q dyad_Sub.call (u1 i) rfl rfl ?_
      simp -implicitDefEqProofs only [go_sem, simprocAttr, -Int.reducePow, DD, k1s, k6, k14, k15, k16, hP, gt_iff_lt, c1, c2, c4, c5, ci, hc, g0, dcl, hy]
      refine callK_q dyad_Cmp.call (k1 i) rfl rfl ?_
      simp -implicitDefEqProofs only [go_sem, simprocAttr, -Int.reducePow, DD, k1s, k6, k14, k15, k16, hP, gt_iff_lt, c1, c2, c4, c5, ci, hc, g0, dcl, hy]
      exact ⟨d - (i + 1), by omega, _, _, i + 1, rfl, rfl, by omega, by simp [x_look, k1s], by simp [x_look, k6], by simp [x_look, k14], by simp [x_look, k15], by simp [x_look], by simp <;> omega, g0 _⟩
  · intro hno
    refine sat_of pellet_Any.ok (by simp) ?_
    simp -implicitDefEqProofs only [go_sem, simprocAttr, -Int.reducePow, Tryz.f36, DD]
    refine callK_pl poly_Trim.call (q) (pl1 (pld_sl hcs)) ?_
    simp -implicitDefEqProofs only [go_sem, simprocAttr, -Int.reducePow, DD, hP]
    refine callK_pl pellet_others.call (o1) (pl4 (pld_PA _ _) pld_int pld_int pld_int) ?_
    simp -implicitDefEqProofs only [go_sem, simprocAttr, -Int.reducePow, DD, hP]
    refine loop_of aW0_mono (fun q σ => ∃ sl H i, σ = ⟨sl, H⟩ ∧ q = d - i ∧ i ≤ d ∧ look sl 1 = I64 p ∧ look sl 6 = .ptr 0 0 ∧ look sl 14 = .sl d (pcl d f) ∧ look sl 15 = I64 (d : Nat) ∧ look sl 16 = I64 (i : Nat) ∧ 0 < H.length ∧ H.getD 0 ⟨[], false, false⟩ = ⟨dcl S, true, true⟩) ?_ (n := d)
      ⟨_, _, 0, rfl, rfl, Nat.zero_le _, by simp [x_look], by simp [x_look], by simp [x_look], by simp [x_look], by simp [x_look], by simp, rfl⟩
    rintro r _ ⟨sl, H, i, rfl, rfl, hi, k1s, k6, k14, k15, k16, hH, hg0⟩
    by_cases hid : i = d
    · subst hid
      simp -implicitDefEqProofs only [go_sem, simprocAttr, -Int.reducePow, DD, k1s, k6, k14, k15, k16, hP, gt_iff_lt, Int.lt_irrefl]
    · skip
      have c1 : (i : Int) < (d : Int) := by omega
      have ci : IntKind.i64.wrap ((i : Int) + 1) = ((i + 1 : Nat) : Int) := by rw [wrap_id (by omega)]; omega
      have c2 : (0 : Int) ≤ (i : Int) := by omega
      have c4 : i * 6 < (pcl d f).length := by rw [pcl_len]; omega
      have c5 : i * 6 + 6 ≤ (pcl d f).length := by rw [pcl_len]; omega
      have hc := pcl_el (n := d) f (show i < d by omega)
      have g0 : ∀ y, (H ++ [y]).getD 0 ⟨[], false, false⟩ = ⟨dcl S, true, true⟩ := fun y => by rw [getD_hp hH]; exact hg0
      have hy := hno i (by omega)
      simp -implicitDefEqProofs only [go_sem, simprocAttr, -Int.reducePow, DD, k1s, k6, k14, k15, k16, hP, gt_iff_lt, c1, c2, c4, c5, ci, hc, g0, dcl, hy]
      refine callK_pl pellet_Far.call (f0 i) (pl3 (pld_CI _) pld_int pld_int) ?_
      simp -implicitDefEqProofs only [go_sem, simprocAttr, -Int.reducePow, DD, k1s, k6, k14, k15, k16, hP, gt_iff_lt, c1, c2, c4, c5, ci, hc, g0, dcl, hy]
      refine callK_pl pellet_Far.call (f1 i) (pl3 (pld_CI _) pld_int pld_int) ?_
      simp -implicitDefEqProofs only [go_sem, simprocAttr, -Int.reducePow, DD, k1s, k6, k14, k15, k16, hP, gt_iff_lt, c1, c2, c4, c5, ci, hc, g0, dcl, hy]
      refine callK_q dyad_Sub.call (u1 i) rfl rfl ?_
      simp -implicitDefEqProofs only [go_sem, simprocAttr, -Int.reducePow, DD, k1s, k6, k14, k15, k16, hP, gt_iff_lt, c1, c2, c4, c5, ci, hc, g0, dcl, hy]
      refine callK_q dyad_Cmp.call (k1 i) rfl rfl ?_
      simp -implicitDefEqProofs only [go_sem, simprocAttr, -Int.reducePow, DD, k1s, k6, k14, k15, k16, hP, gt_iff_lt, c1, c2, c4, c5, ci, hc, g0, dcl, hy]
      exact ⟨d - (i + 1), by omega, _, _, i + 1, rfl, rfl, by omega, by simp [x_look, k1s], by simp [x_look, k6], by simp [x_look, k14], by simp [x_look, k15], by simp [x_look], by simp <;> omega, g0 _⟩
theorem osum_all {k : Nat} (P : Nat) (up : Bool) : ∀ d, (d ≤ k → osum f k P up d = osum f (-1) P up d) ∧ (k < d → osum f (-1) P up d = osum f k P up d + far (f k) P up)
  | 0 => ⟨fun _ => rfl, fun h => absurd h (Nat.not_lt_zero _)⟩
  | i + 1 => by
    obtain ⟨h1, h2⟩ := osum_all (k := k) P up i
    have hm : ¬ (i : Int) = -1 := by omega
    constructor
    · intro h
      have hk : ¬ (i : Int) = (k : Int) := by omega
      unfold osum
      rw [if_neg hk, if_neg hm, h1 (by omega)]
    · intro h
      unfold osum
      rw [if_neg hm]
      by_cases hk : (i : Int) = (k : Int)
      · have e : i = k := by omega
        subst e
        rw [if_pos rfl, h1 (Nat.le_refl _)]
      · rw [if_neg hk, h2 (by omega)]
        grind
theorem aYes_iff {k P : Nat} (h : k < d) : aYes f d k P ↔ tYes f d k P := by
  unfold aYes tYes
  rw [(osum_all P true d).2 h, show osum f k P true d + far (f k) P true - far (f k) P true = osum f k P true d by grind]
end Go.Ab
