/- Contracts of this seat's functions (of each call: what it answers), walked over the abstract machine, and the laws of numbers that they want. Conditions: those that each theorem states. -/
import Derived.Test.YtcnhnabmkfagbaaGreatDoorD13
set_option linter.unusedVariables false
set_option maxRecDepth 20000
set_option linter.unusedSimpArgs false
set_option linter.unusedSectionVars false
namespace Go.Ab
open Go.Proofs
open Cx (zero one)
attribute [-go_sem] appF newsF
variable {a b : AV} {z w : Cx} {B C n m : Nat} {cs ds : List AV} {f g : Po}
theorem ASl.frm {sz : Nat} {a : AV} {H H' : Heap} {cs : List AV} {n : Nat} (h : ASl sz a H cs n) (hf : ∀ k, k < H.length → a = .own sz k 0 n → H'.getD k ⟨[], false, false⟩ = H.getD k ⟨[], false, false⟩) (hl : H.length ≤ H'.length) : ASl sz a H' cs n := by
  rcases h with h | ⟨k, h1, h2, h3, h4⟩
  · exact .inl h
  · exact .inr ⟨k, h1, by rw [hf k h3 h1]; exact h2, by omega, h4⟩
theorem ASl.fresh {sz : Nat} {a : AV} {H : Heap} {cs : List AV} {n k : Nat} (h : ASl sz a H cs n) (hk : H.length ≤ k) (y : Nat) : a ≠ .own sz k 0 y := fun e => by
  rcases h with ⟨h, _⟩ | ⟨k', h1, h2, h3, h4⟩
  · rw [h] at e; cases e
  · rw [h1] at e; cases e; omega
theorem ASl.set0 {sz : Nat} {a : AV} {H : Heap} {cs : List AV} {n : Nat} (h : ASl sz a H cs n) (h0 : ∀ x, a ≠ .own sz 0 0 x) (o : AObj) : ASl sz a (H.set 0 o) cs n := by
  rcases h with h | ⟨k, h1, h2, h3, h4⟩
  · exact .inl h
  · refine .inr ⟨k, h1, ?_, by simpa using h3, h4⟩
    have : ¬ 0 = k := fun e => h0 n (by rw [h1, ← e])
    rw [getD_set h3, if_neg this]; exact h2
theorem gsplit_s (h : RP cs n f B) (hB : B ≤ 20000) (hcs : ∀ c ∈ cs, IsD c) : Sat CT false 64 [.sl n cs] (.tup [PA (dg n (pE f)) (pE f), PA (dg n (pO f)) (pO f)]) := by
  refine sat_of graeffe_Split.ok (by simp) ?_
  have DD := graeffe_Split.dr
  simp only [drP, drPx, drPt, drR, drS, drT, bodyOf, Tryz.f64, Nat.reduceEqDiff, reduceIte, true_and, and_true] at DD
  have hsm := h.small
  have q0 := ptrim_s h hB
  have hle := dg_le n f
  have hs := dg_sp h.sp
  have q1 := ptrim_P h.pb.pE hs.pE' (by omega) hB
  have q2 := ptrim_P h.pb.pO hs.pO' (by omega) hB
  rw [← dg_ind h.sp.pE hs.pE'] at q1
  rw [← dg_ind h.sp.pO hs.pO'] at q2
  have hL := pcl_len (dg n f) f
  generalize dg n f = d at *
  simp -implicitDefEqProofs only [go_sem, simprocAttr, -Int.reducePow, Tryz.f64, DD, x_app, x_ga0, x_gas, x_gan, Int.cast_ofNat_Int, eq_self, Int.zero_lt_one, Bool.not_false, Bool.not_true, beq_self_eq_true]
  refine callK_pl poly_Trim.call (q0) (pl1 (pld_sl hcs)) ?_
  simp -implicitDefEqProofs only [go_sem, simprocAttr, -Int.reducePow, DD, x_app, x_ga0, x_gas, x_gan, Int.cast_ofNat_Int, eq_self, Int.zero_lt_one, Bool.not_false, Bool.not_true, beq_self_eq_true, PA]
  refine loop_fz aW0_mono (fun q σ => ∃ sl H A O i, σ = ⟨sl, H⟩ ∧ q = d - i ∧ i ≤ d ∧ look sl 4 = .ptr 0 0 ∧ look sl 8 = .sl d (pcl d f) ∧ look sl 9 = I64 (d : Nat) ∧ look sl 10 = I64 (i : Nat) ∧ 0 < H.length ∧ H.getD 0 ⟨[], false, false⟩ = ⟨[A, O], true, true⟩ ∧ ASl 6 A H (pcl ((i + 1) / 2) (pE f)) ((i + 1) / 2) ∧ ASl 6 O H (pcl (i / 2) (pO f)) (i / 2) ∧ (∀ k x y, A = .own 6 k 0 x → O ≠ .own 6 k 0 y) ∧ (∀ x, A ≠ .own 6 0 0 x) ∧ ∀ x, O ≠ .own 6 0 0 x) ?_ (n := d)
    ⟨_, _, _, _, 0, rfl, rfl, Nat.zero_le _, by simp [x_look], by simp [x_look], by simp [x_look], by simp [x_look], by simp, rfl, by simp [pcl0, ASl.nil], by simp [pcl0, ASl.nil], fun k x y e => (by cases e), fun x e => (by cases e), fun x e => (by cases e)⟩
  rintro q _ ⟨sl, H, A, O, i, rfl, rfl, hi, k4, k8, k9, k10, hH, hg0, hA, hO, hne, hA0, hO0⟩
  by_cases hid : i = d
  · subst hid
    have g0f : (fzAll H).getD 0 ⟨[], false, false⟩ = ⟨[A, O], true, false⟩ := by
      have := hd_fzAll H 0
      unfold hd at this
      rw [this, hg0]
    simp -implicitDefEqProofs only [go_sem, simprocAttr, -Int.reducePow, DD, x_app, x_ga0, x_gas, x_gan, Int.cast_ofNat_Int, eq_self, Int.zero_lt_one, Bool.not_false, Bool.not_true, beq_self_eq_true, k4, k8, k9, k10, Int.lt_irrefl, g0f]
    refine callK_fz poly_Trim.call q1 (rsl_frz hA) (snap0_pcl _ _) (isD_pcl _ _) rfl ?_
    simp -implicitDefEqProofs only [go_sem, simprocAttr, -Int.reducePow, DD, x_app, x_ga0, x_gas, x_gan, Int.cast_ofNat_Int, eq_self, Int.zero_lt_one, Bool.not_false, Bool.not_true, beq_self_eq_true, k4, k8, k9, k10, g0f]
    refine callK_fz poly_Trim.call q2 (rsl_frz hO) (snap0_pcl _ _) (isD_pcl _ _) rfl ?_
    simp -implicitDefEqProofs only [go_sem, simprocAttr, -Int.reducePow, DD, x_app, x_ga0, x_gas, x_gan, Int.cast_ofNat_Int, eq_self, Int.zero_lt_one, Bool.not_false, Bool.not_true, beq_self_eq_true, k4, k8, k9, k10, g0f]
    exact ⟨⟨trivial, trivial⟩, isD_PA2 _ _ _ _, rfl⟩
  · have c1 : (i : Int) < (d : Int) := by omega
    have ci : IntKind.i64.wrap ((i : Int) + 1) = ((i + 1 : Nat) : Int) := by rw [wrap_id (by omega)]; omega
    have c2 : (0 : Int) ≤ (i : Int) := by omega
    have c4 : i * 6 < d * 6 := by omega
    have c5 : i * 6 + 6 ≤ d * 6 := by omega
    have hc := pcl_el f (show i < d by omega)
    have c6 : ¬ (2 : Int) = 0 := by decide
    have g0 : ∀ y, (H ++ [y]).getD 0 ⟨[], false, false⟩ = ⟨[A, O], true, true⟩ := fun y => by rw [getD_hp hH]; exact hg0
    have g00 : ∀ y z, (H ++ [y] ++ [z]).getD 0 ⟨[], false, false⟩ = ⟨[A, O], true, true⟩ := fun y z => by rw [getD_hp (by simp)]; exact g0 y
    have gL : ∀ y z, (H ++ [y] ++ [z]).getD H.length ⟨[], false, false⟩ = y := fun y z => by rw [getD_hp (by simp), x_hget]
    by_cases he : i % 2 = 0
    · have c7 : i % 2 = 0 := by omega
      have e1 : (i + 1) / 2 = i / 2 := by omega
      have e2 : (i + 1 + 1) / 2 = i / 2 + 1 := by omega
      have e3 : f i = pE f (i / 2) := by show f i = f (2 * (i / 2)); congr 1; omega
      rw [e1] at hA
      simp -implicitDefEqProofs only [go_sem, simprocAttr, -Int.reducePow, DD, x_app, x_ga0, x_gas, x_gan, Int.cast_ofNat_Int, eq_self, Int.zero_lt_one, Bool.not_false, Bool.not_true, beq_self_eq_true, k4, k8, k9, k10, ci, c1, c2, c4, c5, hL, hc, x_tmod2, c6, g0, g00, gL, c7, Int.natCast_zero, Int.natCast_one, Int.toNat_one, Int.cast_ofNat_Int]
      refine ⟨?_, ?_, ?_⟩
      · skip
        refine app_step (P := Tryz.prog) tk22 rfl tk29 tk22 rfl rfl (by decide) (n := i / 2) (m := 1) ((hA.ext _).ext _) (.inl ⟨rfl, x_hget⟩) rfl (by decide) rfl (Nat.le_trans (Nat.mul_le_mul_right _ (show i / 2 + 1 ≤ 1000001 by omega)) (by decide)) (by omega) ?_
        intro H' hg hl' hk'
        have g0' : H'.getD 0 ⟨[], false, false⟩ = ⟨[A, O], true, true⟩ := by rw [hk' 0 (by simp) (hA0 _)]; exact g00 _ _
        have hlen : H'.length = H.length + 3 := by rw [hl']; simp
        simp -implicitDefEqProofs only [go_sem, simprocAttr, -Int.reducePow, DD, x_app, x_ga0, x_gas, x_gan, Int.cast_ofNat_Int, eq_self, Int.zero_lt_one, Bool.not_false, Bool.not_true, beq_self_eq_true, k4, k8, k9, k10, ci, c1, c2, c4, c5, hL, hc, x_tmod2, c6, g0, g00, gL, c7, Int.natCast_zero, Int.natCast_one, Int.toNat_one, Int.cast_ofNat_Int, g0']
        refine ⟨d - (i + 1), by omega, _, _, _, O, i + 1, rfl, rfl, by omega, by simp [x_look, k4], by simp [x_look, k8], by simp [x_look, k9], by simp [x_look], by simp; omega, by rw [getD_set (by omega), if_pos rfl], ?_, ?_, ?_, ?_, hO0⟩
        · rw [e2]; exact (ASl.lastP (by rw [← e3]; exact hg) hl').set0 (fun x e => by simp at e) _
        · rw [e1]
          exact (hO.frm (H' := H') (fun k hk hk2 => by rw [hk' k (by simp; omega) (fun e => hne k _ _ e hk2), getD_hp (by simp; omega)]; exact getD_hp hk _) (by omega)).set0 hO0 _
        · intro k x y e
          simp only [AV.own.injEq] at e
          exact hO.fresh (by rw [← e.2.1]; simp) y
        · intro x e; simp at e
      · skip
        refine app_step (P := Tryz.prog) tk22 rfl tk29 tk22 rfl rfl (by decide) (n := i / 2) (m := 1) ((hA.ext _).ext _) (.inl ⟨rfl, x_hget⟩) rfl (by decide) rfl (Nat.le_trans (Nat.mul_le_mul_right _ (show i / 2 + 1 ≤ 1000001 by omega)) (by decide)) (by omega) ?_
        intro H' hg hl' hk'
        have g0' : H'.getD 0 ⟨[], false, false⟩ = ⟨[A, O], true, true⟩ := by rw [hk' 0 (by simp) (hA0 _)]; exact g00 _ _
        have hlen : H'.length = H.length + 3 := by rw [hl']; simp
        simp -implicitDefEqProofs only [go_sem, simprocAttr, -Int.reducePow, DD, x_app, x_ga0, x_gas, x_gan, Int.cast_ofNat_Int, eq_self, Int.zero_lt_one, Bool.not_false, Bool.not_true, beq_self_eq_true, k4, k8, k9, k10, ci, c1, c2, c4, c5, hL, hc, x_tmod2, c6, g0, g00, gL, c7, Int.natCast_zero, Int.natCast_one, Int.toNat_one, Int.cast_ofNat_Int, g0']
        refine ⟨d - (i + 1), by omega, _, _, _, O, i + 1, rfl, rfl, by omega, by simp [x_look, k4], by simp [x_look, k8], by simp [x_look, k9], by simp [x_look], by simp; omega, by rw [getD_set (by omega), if_pos rfl], ?_, ?_, ?_, ?_, hO0⟩
        · rw [e2]; exact (ASl.lastP (by rw [← e3]; exact hg) hl').set0 (fun x e => by simp at e) _
        · rw [e1]
          exact (hO.frm (H' := H') (fun k hk hk2 => by rw [hk' k (by simp; omega) (fun e => hne k _ _ e hk2), getD_hp (by simp; omega)]; exact getD_hp hk _) (by omega)).set0 hO0 _
        · intro k x y e
          simp only [AV.own.injEq] at e
          exact hO.fresh (by rw [← e.2.1]; simp) y
        · intro x e; simp at e
      · skip
        refine app_step (P := Tryz.prog) tk22 rfl tk29 tk22 rfl rfl (by decide) (n := i / 2) (m := 1) ((hA.ext _).ext _) (.inl ⟨rfl, x_hget⟩) rfl (by decide) rfl (Nat.le_trans (Nat.mul_le_mul_right _ (show i / 2 + 1 ≤ 1000001 by omega)) (by decide)) (by omega) ?_
        intro H' hg hl' hk'
        have g0' : H'.getD 0 ⟨[], false, false⟩ = ⟨[A, O], true, true⟩ := by rw [hk' 0 (by simp) (hA0 _)]; exact g00 _ _
        have hlen : H'.length = H.length + 3 := by rw [hl']; simp
        simp -implicitDefEqProofs only [go_sem, simprocAttr, -Int.reducePow, DD, x_app, x_ga0, x_gas, x_gan, Int.cast_ofNat_Int, eq_self, Int.zero_lt_one, Bool.not_false, Bool.not_true, beq_self_eq_true, k4, k8, k9, k10, ci, c1, c2, c4, c5, hL, hc, x_tmod2, c6, g0, g00, gL, c7, Int.natCast_zero, Int.natCast_one, Int.toNat_one, Int.cast_ofNat_Int, g0']
        refine ⟨d - (i + 1), by omega, _, _, _, O, i + 1, rfl, rfl, by omega, by simp [x_look, k4], by simp [x_look, k8], by simp [x_look, k9], by simp [x_look], by simp; omega, by rw [getD_set (by omega), if_pos rfl], ?_, ?_, ?_, ?_, hO0⟩
        · rw [e2]; exact (ASl.lastP (by rw [← e3]; exact hg) hl').set0 (fun x e => by simp at e) _
        · rw [e1]
          exact (hO.frm (H' := H') (fun k hk hk2 => by rw [hk' k (by simp; omega) (fun e => hne k _ _ e hk2), getD_hp (by simp; omega)]; exact getD_hp hk _) (by omega)).set0 hO0 _
        · intro k x y e
          simp only [AV.own.injEq] at e
          exact hO.fresh (by rw [← e.2.1]; simp) y
        · intro x e; simp at e
    · have c7 : i % 2 = 1 := by omega
      have e1 : (i + 1 + 1) / 2 = (i + 1) / 2 := by omega
      have e2 : (i + 1) / 2 = i / 2 + 1 := by omega
      have e3 : f i = pO f (i / 2) := by show f i = f (2 * (i / 2) + 1); congr 1; omega
      simp -implicitDefEqProofs only [go_sem, simprocAttr, -Int.reducePow, DD, x_app, x_ga0, x_gas, x_gan, Int.cast_ofNat_Int, eq_self, Int.zero_lt_one, Bool.not_false, Bool.not_true, beq_self_eq_true, k4, k8, k9, k10, ci, c1, c2, c4, c5, hL, hc, x_tmod2, c6, g0, g00, gL, c7, Int.natCast_zero, Int.natCast_one, Int.toNat_one, Int.cast_ofNat_Int]
      refine ⟨?_, ?_, ?_⟩
      · skip
        refine app_step (P := Tryz.prog) tk22 rfl tk29 tk22 rfl rfl (by decide) (n := i / 2) (m := 1) ((hO.ext _).ext _) (.inl ⟨rfl, x_hget⟩) rfl (by decide) rfl (Nat.le_trans (Nat.mul_le_mul_right _ (show i / 2 + 1 ≤ 1000001 by omega)) (by decide)) (by omega) ?_
        intro H' hg hl' hk'
        have g0' : H'.getD 0 ⟨[], false, false⟩ = ⟨[A, O], true, true⟩ := by rw [hk' 0 (by simp) (hO0 _)]; exact g00 _ _
        have hlen : H'.length = H.length + 3 := by rw [hl']; simp
        simp -implicitDefEqProofs only [go_sem, simprocAttr, -Int.reducePow, DD, x_app, x_ga0, x_gas, x_gan, Int.cast_ofNat_Int, eq_self, Int.zero_lt_one, Bool.not_false, Bool.not_true, beq_self_eq_true, k4, k8, k9, k10, ci, c1, c2, c4, c5, hL, hc, x_tmod2, c6, g0, g00, gL, c7, Int.natCast_zero, Int.natCast_one, Int.toNat_one, Int.cast_ofNat_Int, g0']
        refine ⟨d - (i + 1), by omega, _, _, A, _, i + 1, rfl, rfl, by omega, by simp [x_look, k4], by simp [x_look, k8], by simp [x_look, k9], by simp [x_look], by simp; omega, by rw [getD_set (by omega), if_pos rfl], ?_, ?_, ?_, hA0, ?_⟩
        · rw [e1]
          exact (hA.frm (H' := H') (fun k hk hk2 => by rw [hk' k (by simp; omega) (fun e => hne k _ _ hk2 e), getD_hp (by simp; omega)]; exact getD_hp hk _) (by omega)).set0 hA0 _
        · rw [e2]; exact (ASl.lastP (by rw [← e3]; exact hg) hl').set0 (fun x e => by simp at e) _
        · intro k x y e q
          simp only [AV.own.injEq] at q
          exact hA.fresh (k := k) (by rw [← q.2.1]; simp) x e
        · intro x e; simp at e
      · skip
        refine app_step (P := Tryz.prog) tk22 rfl tk29 tk22 rfl rfl (by decide) (n := i / 2) (m := 1) ((hO.ext _).ext _) (.inl ⟨rfl, x_hget⟩) rfl (by decide) rfl (Nat.le_trans (Nat.mul_le_mul_right _ (show i / 2 + 1 ≤ 1000001 by omega)) (by decide)) (by omega) ?_
        intro H' hg hl' hk'
        have g0' : H'.getD 0 ⟨[], false, false⟩ = ⟨[A, O], true, true⟩ := by rw [hk' 0 (by simp) (hO0 _)]; exact g00 _ _
        have hlen : H'.length = H.length + 3 := by rw [hl']; simp
        simp -implicitDefEqProofs only [go_sem, simprocAttr, -Int.reducePow, DD, x_app, x_ga0, x_gas, x_gan, Int.cast_ofNat_Int, eq_self, Int.zero_lt_one, Bool.not_false, Bool.not_true, beq_self_eq_true, k4, k8, k9, k10, ci, c1, c2, c4, c5, hL, hc, x_tmod2, c6, g0, g00, gL, c7, Int.natCast_zero, Int.natCast_one, Int.toNat_one, Int.cast_ofNat_Int, g0']
        refine ⟨d - (i + 1), by omega, _, _, A, _, i + 1, rfl, rfl, by omega, by simp [x_look, k4], by simp [x_look, k8], by simp [x_look, k9], by simp [x_look], by simp; omega, by rw [getD_set (by omega), if_pos rfl], ?_, ?_, ?_, hA0, ?_⟩
        · rw [e1]
          exact (hA.frm (H' := H') (fun k hk hk2 => by rw [hk' k (by simp; omega) (fun e => hne k _ _ hk2 e), getD_hp (by simp; omega)]; exact getD_hp hk _) (by omega)).set0 hA0 _
        · rw [e2]; exact (ASl.lastP (by rw [← e3]; exact hg) hl').set0 (fun x e => by simp at e) _
        · intro k x y e q
          simp only [AV.own.injEq] at q
          exact hA.fresh (k := k) (by rw [← q.2.1]; simp) x e
        · intro x e; simp at e
      · skip
        refine app_step (P := Tryz.prog) tk22 rfl tk29 tk22 rfl rfl (by decide) (n := i / 2) (m := 1) ((hO.ext _).ext _) (.inl ⟨rfl, x_hget⟩) rfl (by decide) rfl (Nat.le_trans (Nat.mul_le_mul_right _ (show i / 2 + 1 ≤ 1000001 by omega)) (by decide)) (by omega) ?_
        intro H' hg hl' hk'
        have g0' : H'.getD 0 ⟨[], false, false⟩ = ⟨[A, O], true, true⟩ := by rw [hk' 0 (by simp) (hO0 _)]; exact g00 _ _
        have hlen : H'.length = H.length + 3 := by rw [hl']; simp
        simp -implicitDefEqProofs only [go_sem, simprocAttr, -Int.reducePow, DD, x_app, x_ga0, x_gas, x_gan, Int.cast_ofNat_Int, eq_self, Int.zero_lt_one, Bool.not_false, Bool.not_true, beq_self_eq_true, k4, k8, k9, k10, ci, c1, c2, c4, c5, hL, hc, x_tmod2, c6, g0, g00, gL, c7, Int.natCast_zero, Int.natCast_one, Int.toNat_one, Int.cast_ofNat_Int, g0']
        refine ⟨d - (i + 1), by omega, _, _, A, _, i + 1, rfl, rfl, by omega, by simp [x_look, k4], by simp [x_look, k8], by simp [x_look, k9], by simp [x_look], by simp; omega, by rw [getD_set (by omega), if_pos rfl], ?_, ?_, ?_, hA0, ?_⟩
        · rw [e1]
          exact (hA.frm (H' := H') (fun k hk hk2 => by rw [hk' k (by simp; omega) (fun e => hne k _ _ hk2 e), getD_hp (by simp; omega)]; exact getD_hp hk _) (by omega)).set0 hA0 _
        · rw [e2]; exact (ASl.lastP (by rw [← e3]; exact hg) hl').set0 (fun x e => by simp at e) _
        · intro k x y e q
          simp only [AV.own.injEq] at q
          exact hA.fresh (k := k) (by rw [← q.2.1]; simp) x e
        · intro x e; simp at e
end Go.Ab
