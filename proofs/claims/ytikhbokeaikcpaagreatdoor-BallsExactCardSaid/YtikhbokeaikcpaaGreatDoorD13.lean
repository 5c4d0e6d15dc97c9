/- Contracts of this seat's functions (of each call: what it answers), walked over the abstract machine, and the laws of numbers that they want. Conditions: those that each theorem states. -/
import Derived.Test.YtikhbokeaikcpaaGreatDoorD12
set_option linter.unusedVariables false
set_option maxRecDepth 20000
set_option linter.unusedSimpArgs false
set_option linter.unusedSectionVars false
namespace Go.Ab
open Go.Proofs
open Cx (zero one)
attribute [-go_sem] appF newsF
variable {a b : AV} {z w : Cx} {B C n m : Nat} {cs ds : List AV} {f g : Po}
theorem x_takeCIc {z : Cx} : (CIc z).take 6 = CIc z := rfl
attribute [go_sem] x_takeCIc
theorem at_P (hs : Sp n f) (i : Nat) : atA (pcl n f) n i = CI (f i) := by
  unfold atA; split
  · rename_i q; rw [pcl_el f q]; rfl
  · rename_i q; rw [hs i (by omega)]
theorem rat_P (h : PB f B) (hs : Sp n f) (hn : n ≤ 1000000) (i : Nat) : Sat CT false 96 [.sl n (pcl n f), I64 (i : Nat)] (CI (f i)) := by
  have := rat_s (RP_P h hs hn) i
  rwa [at_P hs] at this
theorem radd_s (h : PB f B) (h' : PB g B) (hs : Sp n f) (hs' : Sp m g) (hB : B ≤ 19999) (hn : n ≤ 1000000) (hm : m ≤ 1000000) : Sat CT false 61 [PA n f, PA m g] (PA (dg (max n m) (padd f g)) (padd f g)) := by
  refine sat_of annulusref11_Add.ok (by simp) ?_
  have DD := annulusref11_Add.dr
  simp only [drP, drPx, drPt, drR, drS, drT, bodyOf, Tryz.f61, Nat.reduceEqDiff, reduceIte, true_and, and_true] at DD
  have hP : PB (padd f g) (B + 1) := h.add h'
  have hsp := Sp.padd hs hs'
  have hmx : max (n : Int) (m : Int) = ((max n m : Nat) : Int) := by omega
  have hN : max n m ≤ 1000000 := by omega
  generalize max n m = N at *
  simp -implicitDefEqProofs only [go_sem, simprocAttr, -Int.reducePow, Tryz.f61, DD, x_app, x_ga0, x_gas, x_gan, Int.cast_ofNat_Int, eq_self, Int.zero_lt_one, Bool.not_false, Bool.not_true, beq_self_eq_true, PA, hmx]
  refine loop_of aW0_mono (fun q σ => ∃ sl H i, σ = ⟨sl, H⟩ ∧ q = N - i ∧ i ≤ N ∧ look sl 0 = .sl n (pcl n f) ∧ look sl 1 = .sl m (pcl m g) ∧ look sl 6 = I64 (i : Nat) ∧ ASl 6 (look sl 5) H (pcl i (padd f g)) i) ?_ (n := N) ⟨_, _, 0, rfl, rfl, Nat.zero_le _, by simp [x_look], by simp [x_look], by simp [x_look], by simp [x_look, pcl0, ASl.nil]⟩
  rintro q _ ⟨sl, H, i, rfl, rfl, hi, k0, k1, k6, hA⟩
  by_cases hid : i = N
  · subst hid
    simp -implicitDefEqProofs only [go_sem, simprocAttr, -Int.reducePow, DD, x_app, x_ga0, x_gas, x_gan, Int.cast_ofNat_Int, eq_self, Int.zero_lt_one, Bool.not_false, Bool.not_true, beq_self_eq_true, k0, k1, k6, hmx, Int.lt_irrefl]
    refine callK_ar annulusref11_Trim.call (rtrim_P hP hsp hN (by omega)) (.cons (.row hA.rsl (snap0_pcl _ _) (isD_pcl _ _)) .nil) rfl ?_
    intro H' _
    simp -implicitDefEqProofs only [go_sem, simprocAttr, -Int.reducePow, DD, x_app, x_ga0, x_gas, x_gan, Int.cast_ofNat_Int, eq_self, Int.zero_lt_one, Bool.not_false, Bool.not_true, beq_self_eq_true, k0, k1, k6, hmx]
    exact ⟨trivial, isD_PA _ _, rfl⟩
  · have c1 : (i : Int) < (N : Int) := by omega
    have ci : IntKind.i64.wrap ((i : Int) + 1) = ((i + 1 : Nat) : Int) := by rw [wrap_id (by omega)]; omega
    simp -implicitDefEqProofs only [go_sem, simprocAttr, -Int.reducePow, DD, x_app, x_ga0, x_gas, x_gan, Int.cast_ofNat_Int, eq_self, Int.zero_lt_one, Bool.not_false, Bool.not_true, beq_self_eq_true, k0, k1, k6, hmx, ci, c1]
    refine callK_pl annulusref11_at.call (rat_P h hs hn i) (pl2 (pld_PA n f) pld_int) ?_
    simp -implicitDefEqProofs only [go_sem, simprocAttr, -Int.reducePow, DD, x_app, x_ga0, x_gas, x_gan, Int.cast_ofNat_Int, eq_self, Int.zero_lt_one, Bool.not_false, Bool.not_true, beq_self_eq_true, k0, k1, k6, hmx, ci, c1]
    refine callK_pl annulusref11_at.call (rat_P h' hs' hm i) (pl2 (pld_PA m g) pld_int) ?_
    simp -implicitDefEqProofs only [go_sem, simprocAttr, -Int.reducePow, DD, x_app, x_ga0, x_gas, x_gan, Int.cast_ofNat_Int, eq_self, Int.zero_lt_one, Bool.not_false, Bool.not_true, beq_self_eq_true, k0, k1, k6, hmx, ci, c1]
    refine callK_pl annulusref8_Add.call (radd8 (h i) (h' i) (by omega) (by omega)) (pl2 (pld_CI _) (pld_CI _)) ?_
    simp -implicitDefEqProofs only [go_sem, simprocAttr, -Int.reducePow, DD, x_app, x_ga0, x_gas, x_gan, Int.cast_ofNat_Int, eq_self, Int.zero_lt_one, Bool.not_false, Bool.not_true, beq_self_eq_true, k0, k1, k6, hmx, ci, c1]
    refine app_step (P := Tryz.prog) tk45 rfl tk28 tk45 rfl rfl (by decide) (n := i) (m := 1) (hA.ext _) (.inl ⟨rfl, x_hget⟩) rfl (by decide) rfl (Nat.le_trans (Nat.mul_le_mul_right _ (show i + 1 ≤ 1000001 by omega)) (by decide)) (by omega) ?_
    intro H' hg hl' hk'
    simp -implicitDefEqProofs only [go_sem, simprocAttr, -Int.reducePow, DD, x_app, x_ga0, x_gas, x_gan, Int.cast_ofNat_Int, eq_self, Int.zero_lt_one, Bool.not_false, Bool.not_true, beq_self_eq_true, k0, k1, k6, hmx, ci, c1]
    exact ⟨N - (i + 1), by omega, _, _, i + 1, rfl, rfl, by omega, by simp [x_look, k0], by simp [x_look, k1], by simp [x_look], by simp only [x_look, reduceIte, Nat.reduceEqDiff]; exact ASl.lastP (g := padd f g) hg hl'⟩
theorem PB.dp {f : Po} {B : Nat} (h : PB f B) (i : Nat) : PB (dp i f) B := fun k => h (k + i)
theorem Blk.len {l : List AV} {z : Cx} (h : Blk l z) : l.length = 6 := by rcases h with rfl | ⟨_, rfl⟩ <;> rfl
theorem Blk.take {l : List AV} {z : Cx} (h : Blk l z) : l.take 6 = l := List.take_of_length_le (Nat.le_of_eq h.len)
theorem pos_of {r : Nat} (h : r ≠ 0) : ∃ q, r = q + 1 := ⟨r - 1, by omega⟩
theorem x_leafOwn {sz k o n : Nat} : leafA (.own sz k o n) = true := rfl
attribute [go_sem] x_frz x_frk x_leafOwn
theorem rat11_s (h : PB f B) (hz : CB z C) (hB : n * (C + 2) + B + C ≤ 19990) (hn : n ≤ 1000000) : Sat CT false 55 [PA n f, CI z] (CI (ev n f z)) := by
  refine sat_of annulusref11_At.ok (by simp) ?_
  have DD := annulusref11_At.dr
  simp only [drP, drPx, drPt, drR, drS, drT, bodyOf, Tryz.f55, Nat.reduceEqDiff, reduceIte, true_and, and_true] at DD
  have hlen := pcl_len n f
  have hzc := hz
  have hpb := h
  have cn : IntKind.i64.wrap ((n : Int) - 1) = (n : Int) - 1 := wrap_id (by omega)
  simp -implicitDefEqProofs only [go_sem, simprocAttr, -Int.reducePow, Tryz.f55, DD, x_app, x_ga0, x_gas, x_gan, Int.cast_ofNat_Int, eq_self, Int.zero_lt_one, Bool.not_false, Bool.not_true, beq_self_eq_true, PA, cn]
  refine loop_of aW0_mono (fun r σ => ∃ sl l2, σ = ⟨sl, [⟨CIc z, true, true⟩, ⟨zc6, true, true⟩, ⟨l2, true, true⟩]⟩ ∧ r ≤ n ∧ look sl 0 = .sl n (pcl n f) ∧ look sl 3 = .ptr 0 0 ∧ look sl 4 = .ptr 1 0 ∧ look sl 5 = .ptr 2 0 ∧ look sl 6 = I64 ((r : Int) - 1) ∧ Blk l2 (ev (n - r) (dp r f) z)) ?_ (n := n)
    ⟨_, _, rfl, Nat.le_refl _, by simp [x_look], by simp [x_look], by simp [x_look], by simp [x_look], by simp [x_look], .inr ⟨by rw [Nat.sub_self, ev0], rfl⟩⟩
  rintro r _ ⟨sl, l2, rfl, hr, k0, k3, k4, k5, k6, hb⟩
  by_cases hr0 : r = 0
  · subst hr0
    rw [Nat.sub_zero, dp0] at hb
    have c1 : ¬ (0 : Int) ≤ ((0 : Nat) : Int) - 1 := by omega
    rcases hb with rfl | ⟨hz, rfl⟩
    · simp -implicitDefEqProofs only [go_sem, simprocAttr, -Int.reducePow, DD, x_app, x_ga0, x_gas, x_gan, Int.cast_ofNat_Int, eq_self, Int.zero_lt_one, Bool.not_false, Bool.not_true, beq_self_eq_true, WI, IA, DI, DA, CI, k0, k3, k4, k5, k6, c1, zc6, CIc]
    · rw [hz, CIc_0]
      simp -implicitDefEqProofs only [go_sem, simprocAttr, -Int.reducePow, DD, x_app, x_ga0, x_gas, x_gan, Int.cast_ofNat_Int, eq_self, Int.zero_lt_one, Bool.not_false, Bool.not_true, beq_self_eq_true, WI, IA, DI, DA, CI, k0, k3, k4, k5, k6, c1, zc6, CIc]
  · obtain ⟨i, rfl⟩ := pos_of hr0
    have c1 : ((i + 1 : Nat) : Int) - 1 = (i : Int) := by omega
    rw [c1] at k6
    have c2 : (0 : Int) ≤ (i : Int) := by omega
    have c3 : (i : Int) < (n : Int) := by omega
    have c4 : i * 6 < n * 6 := by omega
    have c5 : i * 6 + 6 ≤ n * 6 := by omega
    have cw : IntKind.i64.wrap ((i : Int) - 1) = (i : Int) - 1 := wrap_id (by omega)
    have hl2 := hb.len
    have ht2 := hb.take
    have hev : ev (n - i) (dp i f) z = ev (n - (i + 1)) (dp (i + 1) f) z * z + f i := by rw [show n - i = n - (i + 1) + 1 by omega, ev_dp]
    have hvb := CB.ev (hpb.dp (i + 1)) hzc (n - (i + 1))
    have hle := Nat.mul_le_mul_right (C + 2) (show n - (i + 1) ≤ n by omega)
    have hc := pcl_el f (show i < n by omega)
    have q1 := rmul8 hvb hzc (by omega)
    have q2 := radd8 (hvb.mul hzc) (h i) (by omega) (by omega)
    rw [← hev] at q2
    simp -implicitDefEqProofs only [go_sem, simprocAttr, -Int.reducePow, DD, x_app, x_ga0, x_gas, x_gan, Int.cast_ofNat_Int, eq_self, Int.zero_lt_one, Bool.not_false, Bool.not_true, beq_self_eq_true, k0, k3, k4, k5, k6, c2, c3, c4, c5, cw, hl2, ht2, hc, hlen]
    refine callK_pr annulusref8_Mul.call q1 (.cons hb.plr (.cons (pld_CI _).r .nil)) ?_
    simp -implicitDefEqProofs only [go_sem, simprocAttr, -Int.reducePow, DD, x_app, x_ga0, x_gas, x_gan, Int.cast_ofNat_Int, eq_self, Int.zero_lt_one, Bool.not_false, Bool.not_true, beq_self_eq_true, k0, k3, k4, k5, k6, c2, c3, c4, c5, cw, hl2, ht2, hc, hlen]
    refine callK_pr annulusref8_Add.call q2 (.cons (pld_CI _).r (.cons (pld_CI _).r .nil)) ?_
    simp -implicitDefEqProofs only [go_sem, simprocAttr, -Int.reducePow, DD, x_app, x_ga0, x_gas, x_gan, Int.cast_ofNat_Int, eq_self, Int.zero_lt_one, Bool.not_false, Bool.not_true, beq_self_eq_true, k0, k3, k4, k5, k6, c2, c3, c4, c5, cw, hl2, ht2, hc, hlen]
    exact ⟨i, by omega, _, _, rfl, by omega, by simp [x_look, k0], by simp [x_look, k3], by simp [x_look, k4], by simp [x_look, k5], by simp [x_look], .inl rfl⟩
end Go.Ab
