/- Contracts of this seat's functions (of each call: what it answers), walked over the abstract machine, and the laws of numbers that they want. Conditions: those that each theorem states. -/
import Derived.Test.YtikhbokeaikcpaaDoorFG
import Derived.Test.YtikhbokeaikcpaaDoorD12
set_option linter.unusedVariables false
set_option maxRecDepth 20000
set_option linter.unusedSimpArgs false
set_option linter.unusedSectionVars false
namespace Go.Ab
open Go.Proofs
open Cx (zero one)
attribute [-go_sem] appF newsF
variable {a b : AV} {x y r s t : Dyadic} {z w c d e : Cx} {B C n m : Nat}
/-! whole points as floats -/
abbrev cl (k e : Int) : Int := min (max e (-k)) k
theorem dheld_any (e : Int) : Sat CT false 74 [I64 e] (I64 (cl 20000 e)) := by
  refine sat_of dyad_held.ok (by simp) ?_
  have DD := dyad_held.dr
  simp only [drP, drPx, drPt, drR, drS, drT, bodyOf, Tryd.f74, Nat.reduceEqDiff, reduceIte, true_and, and_true] at DD
  simp -implicitDefEqProofs only [go_sem, simprocAttr, -Int.reducePow, Tryd.f74, DD, x_app, x_ga0, x_gas, x_gan, Int.cast_ofNat_Int, eq_self, Int.zero_lt_one, Bool.not_false, Bool.not_true, beq_self_eq_true, WI, IA, DI, DA, CI]
theorem dscale_g (ha : RD a x B) (hB : B ≤ 20000) (k : Int) : Sat CT false 45 [a, I64 k] (DI (x * dv 1 (cl 20000 k))) := by
  refine sat_of dyad_Scale.ok (by simp) ?_
  have DD := dyad_Scale.dr
  simp only [drP, drPx, drPt, drR, drS, drT, bodyOf, Tryd.f45, Nat.reduceEqDiff, reduceIte, true_and, and_true] at DD
  obtain ⟨n, l, e, rfl, hl, rfl, hv, hL, he, hdb⟩ := ha
  have q1 := kept_sat e (by omega)
  have q2 := dheld_any k
  have hk : (cl 20000 k).natAbs ≤ 20000 := by unfold cl; omega
  generalize cl 20000 k = k' at *
  have c1 : IntKind.i64.wrap (e + k') = e + k' := wrap_i64 (by omega) (by omega)
  have q3 := raw_sat n l (e + k') hl (by omega) (pow2_lt hv (by omega)) (by omega)
  rw [show dv (iv n l) (e + k') = dv (iv n l) e * dv 1 k' by rw [dv_mul, Int.mul_one]] at q3
  simp -implicitDefEqProofs only [go_sem, simprocAttr, -Int.reducePow, Tryd.f45, DD, c1, List.take_succ_cons, List.drop_succ_cons]
  refine callK_q dyad_kept.call (q1) rfl rfl ?_
  simp -implicitDefEqProofs only [go_sem, simprocAttr, -Int.reducePow, DD, c1, List.take_succ_cons, List.drop_succ_cons]
  refine callK_q dyad_held.call (q2) rfl rfl ?_
  simp -implicitDefEqProofs only [go_sem, simprocAttr, -Int.reducePow, DD, c1, List.take_succ_cons, List.drop_succ_cons]
  refine callK_q dyad_Raw.call (q3) rfl rfl ?_
  simp -implicitDefEqProofs only [go_sem, simprocAttr, -Int.reducePow, DD, c1, List.take_succ_cons, List.drop_succ_cons]
theorem gscale_g (ha : RC a z B) (hB : B ≤ 20000) (k : Int) : Sat CT false 18 [a, I64 k] (CI ⟨z.re * dv 1 (cl 20000 k), z.im * dv 1 (cl 20000 k)⟩) := by
  refine sat_of gauss_Scale.ok (by simp) ?_
  have DD := gauss_Scale.dr
  simp only [drP, drPx, drPt, drR, drS, drT, bodyOf, Tryd.f18, Nat.reduceEqDiff, reduceIte, true_and, and_true] at DD
  obtain ⟨n, l, e, m, kk, f, rfl, hr, hi⟩ := ha
  have u1 := dscale_g hr hB k
  have u2 := dscale_g hi hB k
  simp -implicitDefEqProofs only [go_sem, simprocAttr, -Int.reducePow, Tryd.f18, DD, List.take_succ_cons, List.drop_succ_cons]
  refine callK_q dyad_Scale.call (u1) rfl rfl ?_
  simp -implicitDefEqProofs only [go_sem, simprocAttr, -Int.reducePow, DD, List.take_succ_cons, List.drop_succ_cons]
  refine callK_q dyad_Scale.call (u2) rfl rfl ?_
  simp -implicitDefEqProofs only [go_sem, simprocAttr, -Int.reducePow, DD, List.take_succ_cons, List.drop_succ_cons]
theorem dmake_g (q e : Int) (hq : Lt2 q.natAbs 100000) (hl : Lz q < 1099511000) : Sat CT false 60 [WI q, I64 e] (DI (dv q (cl 20000 e))) := by
  refine sat_of dyad_Make.ok (by simp) ?_
  have DD := dyad_Make.dr
  simp only [drP, drPx, drPt, drR, drS, drT, bodyOf, Tryd.f60, Nat.reduceEqDiff, reduceIte, true_and, and_true] at DD
  have h1 := dheld_any e
  have h2 := raw_W q (cl 20000 e) hq hl (by unfold cl; omega)
  simp -implicitDefEqProofs only [go_sem, simprocAttr, -Int.reducePow, Tryd.f60, DD, x_app, x_ga0, x_gas, x_gan, Int.cast_ofNat_Int, eq_self, Int.zero_lt_one, Bool.not_false, Bool.not_true, beq_self_eq_true, WI, IA, DI, DA, CI]
  refine callK_q dyad_held.call (h1) rfl rfl ?_
  simp -implicitDefEqProofs only [go_sem, simprocAttr, -Int.reducePow, DD, x_app, x_ga0, x_gas, x_gan, Int.cast_ofNat_Int, eq_self, Int.zero_lt_one, Bool.not_false, Bool.not_true, beq_self_eq_true, WI, IA, DI, DA, CI]
  refine callK_q dyad_Raw.call (h2) rfl rfl ?_
  simp -implicitDefEqProofs only [go_sem, simprocAttr, -Int.reducePow, DD, x_app, x_ga0, x_gas, x_gan, Int.cast_ofNat_Int, eq_self, Int.zero_lt_one, Bool.not_false, Bool.not_true, beq_self_eq_true, WI, IA, DI, DA, CI]
theorem dn_again (x : Dyadic) (e : Int) (h : x = 0 → e = 0) : dnum (dv (dnum x) e) = dnum x ∧ dexp (dv (dnum x) e) = e := by
  by_cases h0 : x = 0
  · rw [h h0, h0]; decide
  · exact ⟨dnum_odd (dnum_odd_of h0) e, dexp_odd (dnum_odd_of h0) e⟩
theorem gfloat_g {r : Nat} (hm : bl (dnum x).natAbs ≤ 53) (he : -90000 ≤ dexp x ∧ dexp x ≤ 90000) (hL : Sat CT false 62 [F64 (floatOfInt .f64 (dnum x)), I64 (cl 5000 (dexp x))] (F64 r)) : Sat CT false 42 [DI x] (F64 r) := by
  refine sat_of gauss_float.ok (by simp) ?_
  have DD := gauss_float.dr
  simp only [drP, drPx, drPt, drR, drS, drT, bodyOf, Tryd.f42, Nat.reduceEqDiff, reduceIte, true_and, and_true] at DD
  have hlt : (dnum x).natAbs < 2 ^ 53 := Nat.lt_of_lt_of_le (bl_lt _) (Nat.pow_le_pow_right (by decide) hm)
  obtain ⟨b1, b2⟩ := Lz_64 (v := dnum x) (Nat.lt_trans hlt (by decide))
  have m1 := dmake_g (dnum x) (dexp x) b1 b2
  obtain ⟨x1, x2⟩ := dn_again x (cl 20000 (dexp x)) (fun q => by rw [q]; decide)
  unfold DI at m1
  rw [x1, x2] at m1
  have n1 := bits_sat (lim (dnum x).natAbs) (Lm_lim _) (by have : (lim (dnum x).natAbs).length = Lz (dnum x) := rfl; omega)
  rw [nv_lim] at n1
  have s1 := shr_r (RI_W (z := dnum x) (Nat.le_refl _)) 0 (Nat.le_of_lt b2)
  rw [show fq (dnum x) (2 ^ shN 0) = dnum x by rw [show shN 0 = 0 from rfl]; unfold fq; simp] at s1
  have s2 := small_y (RI_W (z := dnum x) (Nat.le_refl _)) (Nat.le_of_lt b2) (by omega) (by omega)
  have w1 : IntKind.i64.wrap ((bl (dnum x).natAbs : Int) - 53) = (bl (dnum x).natAbs : Int) - 53 := wrap_i64 (by omega) (by omega)
  have w2 : max ((bl (dnum x).natAbs : Int) - 53) 0 = 0 := by omega
  have w3' : IntKind.i64.wrap (cl 20000 (dexp x)) = cl 20000 (dexp x) := wrap_i64 (by unfold cl; omega) (by unfold cl; omega)
  have w4 : min (max (cl 20000 (dexp x)) (-5000)) 5000 = cl 5000 (dexp x) := by unfold cl; omega
  generalize cl 20000 (dexp x) = e1 at *
  simp -implicitDefEqProofs only [go_sem, simprocAttr, -Int.reducePow, Tryd.f42, DD, x_app, x_ga0, x_gas, x_gan, Int.cast_ofNat_Int, eq_self, Int.zero_lt_one, Bool.not_false, Bool.not_true, beq_self_eq_true, WI, IA, DI, DA, CI]
  refine callK_q dyad_Make.call (m1) rfl rfl ?_
  simp -implicitDefEqProofs only [go_sem, simprocAttr, -Int.reducePow, DD, x_app, x_ga0, x_gas, x_gan, Int.cast_ofNat_Int, eq_self, Int.zero_lt_one, Bool.not_false, Bool.not_true, beq_self_eq_true, WI, IA, DI, DA, CI]
  refine callK_q nat_Bits.call (n1) rfl rfl ?_
  simp -implicitDefEqProofs only [go_sem, simprocAttr, -Int.reducePow, DD, x_app, x_ga0, x_gas, x_gan, Int.cast_ofNat_Int, eq_self, Int.zero_lt_one, Bool.not_false, Bool.not_true, beq_self_eq_true, WI, IA, DI, DA, CI, w1, w2]
  refine callK_q whole_Shr.call (s1) rfl rfl ?_
  simp -implicitDefEqProofs only [go_sem, simprocAttr, -Int.reducePow, DD, x_app, x_ga0, x_gas, x_gan, Int.cast_ofNat_Int, eq_self, Int.zero_lt_one, Bool.not_false, Bool.not_true, beq_self_eq_true, WI, IA, DI, DA, CI]
  refine callK_q whole_Small.call (s2) rfl rfl ?_
  simp -implicitDefEqProofs only [go_sem, simprocAttr, -Int.reducePow, DD, x_app, x_ga0, x_gas, x_gan, Int.cast_ofNat_Int, eq_self, Int.zero_lt_one, Bool.not_false, Bool.not_true, beq_self_eq_true, WI, IA, DI, DA, CI, Int.add_zero, w3', w4]
  refine callK_q math_Ldexp.call (hL) rfl rfl ?_
  simp -implicitDefEqProofs only [go_sem, simprocAttr, -Int.reducePow, DD, x_app, x_ga0, x_gas, x_gan, Int.cast_ofNat_Int, eq_self, Int.zero_lt_one, Bool.not_false, Bool.not_true, beq_self_eq_true, WI, IA, DI, DA, CI]
theorem float_g {x : Dyadic} (hb : bl (dnum x).natAbs ≤ 53) (he : -90000 ≤ dexp x ∧ dexp x ≤ 90000) : ∃ r, Sat CT false 42 [DI x] (F64 r) ∧ fNaN r = false := by
  by_cases h0 : x = 0
  · exact ⟨0, float_0 h0, by decide⟩
  · have hd : dnum x ≠ 0 := fun q => h0 (dnum_zero.1 q)
    have hd' : (dnum x).natAbs ≠ 0 := by omega
    obtain ⟨L, hL⟩ : ∃ L, (dnum x).natAbs.log2 = L := ⟨_, rfl⟩
    have hbl : bl (dnum x).natAbs = L + 1 := by unfold bl; rw [if_neg hd', hL]
    obtain ⟨f1, f2, f3⟩ := fof_int hd hL (by omega)
    obtain ⟨r, r1, r2, _⟩ := ldexp_any (s := decide (dnum x < 0)) (L := L) (M := (dnum x).natAbs * 2 ^ (52 - L) - 4503599627370496) (by omega) (by omega) (cl 5000 (dexp x)) (by unfold cl; omega)
    rw [← f1] at r1
    exact ⟨r, gfloat_g hb he r1, r2⟩
theorem fv_pos {s : Bool} {E M : Nat} (h : ¬ E = 0) : fv s E M = dv (sg' s (4503599627370496 + M)) ((E : Int) - 1075) := by
  unfold fv fmg fpl
  rw [if_neg h, if_neg h]
theorem sgf_shift (s : Bool) (n k : Nat) (e : Int) : dv (sg' s (n * 2 ^ k)) e = dv (sg' s n) (e + (k : Int)) := by
  rw [sgf_mul, show ((2 ^ k : Nat) : Int) = 2 ^ k by rw [Int.natCast_pow]; rfl, dv_shift]
theorem sgf_of (v : Int) : sg' (decide (v < 0)) v.natAbs = v := by
  unfold sg'
  by_cases hn : v < 0
  · rw [decide_eq_true hn]; simp; omega
  · rw [decide_eq_false hn]; simp; omega
/-- whole numbers: as floats and back -/
theorem float_I {v : Int} (hv : -2147483648 ≤ v ∧ v ≤ 2147483647) : ∃ r, Sat CT false 42 [DI (dv v 0)] (F64 r) ∧ Sat CT false 38 [F64 r] (.tup [DI (dv v 0), Bo true]) ∧ (FloatKind.f64.format.order r (floatOfInt .f64 v) == some .eq) = true := by
  by_cases h0 : v = 0
  · subst h0
    refine ⟨0, float_0 (dv_zero 0), ?_, by decide⟩
    have := exact_0 (s := false)
    rw [show fw false 0 0 = 0 from rfl, show fv false 0 0 = dv 0 0 from (dv_zero _).trans (dv_zero 0).symm] at this
    exact this
  · have hne : dv v 0 ≠ 0 := fun q => h0 (dv_eq_zero.1 q)
    obtain ⟨o, z, k1, k2, k3⟩ := dnum_split h0 0
    have ka : v.natAbs = o.natAbs * 2 ^ z := by
      have := congrArg Int.natAbs k1
      rw [Int.natAbs_mul, Int.natAbs_pow] at this
      exact this
    have hva : v.natAbs ≠ 0 := by omega
    have hv31 : v.natAbs < 2 ^ 32 := by omega
    have ho : o.natAbs ≠ 0 := fun q => hva (by rw [ka, q, Nat.zero_mul])
    have hle : o.natAbs ≤ v.natAbs := by rw [ka]; exact Nat.le_mul_of_pos_right _ (Nat.two_pow_pos z)
    obtain ⟨b1, b2⟩ := bl_dnum h0 (e := 0)
    have b3 : bl v.natAbs ≤ 32 := bl_le_of hv31
    have b4 : bl (dnum (dv v 0)).natAbs ≤ 32 := by rw [k2]; exact bl_le_of (Nat.lt_of_le_of_lt hle hv31)
    have hz : z ≤ 32 := by
      have h1 : 2 ^ z ≤ v.natAbs := by rw [ka]; exact Nat.le_mul_of_pos_left _ (by omega)
      refine Nat.le_of_not_lt (fun q => ?_)
      have := Nat.pow_le_pow_right (show 0 < 2 by decide) (show 33 ≤ z by omega)
      omega
    obtain ⟨r, r1, r2, r3⟩ := float_any hne (by omega) (by omega)
    obtain ⟨L', hL'⟩ : ∃ L, v.natAbs.log2 = L := ⟨_, rfl⟩
    have hbl : bl v.natAbs = L' + 1 := by unfold bl; rw [if_neg hva, hL']
    have ht : dtop (dv v 0) = (L' : Int) := by unfold dtop; rw [if_neg hne]; omega
    obtain ⟨L, hL, hr⟩ := r3 (by omega) (by omega)
    have hL5 : L' ≤ 52 := by omega
    obtain ⟨g1, g2, g3⟩ := fof_int h0 hL' hL5
    have hE0 : ¬ L' + 1023 = 0 := by clear hr r3; omega
    have hE5 : L' + 1023 < 2047 := by clear hr r3; omega
    have hM5 : v.natAbs * 2 ^ (52 - L') - 4503599627370496 < 4503599627370496 := by clear hr r3; omega
    have hm5 : 4503599627370496 + (v.natAbs * 2 ^ (52 - L') - 4503599627370496) = v.natAbs * 2 ^ (52 - L') := by clear hr r3; omega
    have hp5 : ((L' + 1023 : Nat) : Int) - 1075 + ((52 - L' : Nat) : Int) = 0 := by clear hr r3; omega
    have hq : (dnum (dv v 0)).natAbs * 2 ^ (52 - L) = v.natAbs * 2 ^ (52 - L') := by
      rw [k2] at hL b1
      rw [k3, hL, hbl] at b1
      rw [k2, ka, Nat.mul_assoc, ← Nat.pow_add, show z + (52 - L') = 52 - L by omega]
    have hs : decide (dnum (dv v 0) < 0) = decide (v < 0) := decide_eq_decide.2 dnum_lt
    have hr2 : r = floatOfInt .f64 v := by
      rw [hr, g1, hq, hs, ht, show ((L' : Int) + 1023).toNat = L' + 1023 by omega]
    refine ⟨r, r1, ?_, ?_⟩
    · rw [hr2, g1]
      have ex := exact_fw (s := decide (v < 0)) (E := L' + 1023) (M := v.natAbs * 2 ^ (52 - L') - 4503599627370496) hE5 hM5
      have ev : fv (decide (v < 0)) (L' + 1023) (v.natAbs * 2 ^ (52 - L') - 4503599627370496) = dv v 0 := by
        rw [fv_pos hE0, hm5, sgf_shift, hp5, sgf_of]
      rw [ev] at ex
      exact ex
    · rw [← hr2]
      have h2 : (FloatKind.f64.format.order r r != some .eq) = false := r2
      simpa [bne] using h2
theorem bne_of' {a : Nat} (h : fNaN a = false) : (FloatKind.f64.format.order a a == some .eq) = true := by
  have h2 : (FloatKind.f64.format.order a a != some .eq) = false := h
  simpa [bne] using h2
theorem big_x {v : Int} (hv : -2147483648 ≤ v ∧ v ≤ 2147483647) (k : Int) (hk : -20000 ≤ k ∧ k ≤ 20000) : bl (dnum (dv v 0 * dv 1 k)).natAbs ≤ 53 ∧ -90000 ≤ dexp (dv v 0 * dv 1 k) ∧ dexp (dv v 0 * dv 1 k) ≤ 90000 := by
  rw [dv_mul, Int.mul_one, Int.zero_add]
  by_cases h0 : v = 0
  · subst h0
    rw [dv_zero]; decide
  · obtain ⟨o, z, k1, k2, k3⟩ := dnum_split h0 k
    obtain ⟨b1, b2⟩ := bl_dnum h0 (e := k)
    have ka : v.natAbs = o.natAbs * 2 ^ z := by
      have := congrArg Int.natAbs k1
      rw [Int.natAbs_mul, Int.natAbs_pow] at this
      exact this
    have hle : o.natAbs ≤ v.natAbs := by rw [ka]; exact Nat.le_mul_of_pos_right _ (Nat.two_pow_pos z)
    have hv31 : v.natAbs < 2 ^ 32 := by omega
    have b3 : bl v.natAbs ≤ 32 := bl_le_of hv31
    have b4 : bl (dnum (dv v k)).natAbs ≤ 32 := by rw [k2]; exact bl_le_of (Nat.lt_of_le_of_lt hle hv31)
    omega
set_option maxHeartbeats 1000000 in
theorem gaussWholes_sat (re : Int) (hre : -2147483648 ≤ re ∧ re ≤ 2147483647) (im : Int) (him : -2147483648 ≤ im ∧ im ≤ 2147483647) (n : Int) (hn : -32768 ≤ n ∧ n ≤ 32767) : Sat CT false 4 [.v (.int .i32 re), .v (.int .i32 im), .v (.int .i16 n)] (Bo true) := by
  refine sat_of annuluslaw8_GaussWholes.ok (by simp) ?_
  have DD := annuluslaw8_GaussWholes.dr
  simp only [drP, drPx, drPt, drR, drS, drT, bodyOf, Tryd.f4, Nat.reduceEqDiff, reduceIte, true_and, and_true] at DD
  have k0 := known8_s
  have w1 : IntKind.i64.wrap re = re := wrap_i64 (by omega) (by omega)
  have w2 : IntKind.i64.wrap im = im := wrap_i64 (by omega) (by omega)
  have w3 : IntKind.i64.wrap n = n := wrap_i64 (by omega) (by omega)
  have o1 : Sat CT false 17 [I64 re, I64 im] (CI ⟨dv re 0, dv im 0⟩) := gof_sat re im (by omega) (by omega) (by omega) (by omega)
  obtain ⟨r1, f1, x1, q1⟩ := float_I hre
  obtain ⟨r2, f2, x2, q2⟩ := float_I him
  have ff := gFloat_s (z := ⟨dv re 0, dv im 0⟩) f1 f2
  have xx := gExact_s x1 x2
  have cz : CB ⟨dv re 0, dv im 0⟩ 64 := zI_db1 (a := re) (b := im) (by omega) (by omega)
  have sc := gscale_g (RC_C cz) (by decide) n
  have hk : -20000 ≤ cl 20000 n ∧ cl 20000 n ≤ 20000 := by unfold cl; omega
  obtain ⟨g1, g2, g3⟩ := big_x hre (cl 20000 n) hk
  obtain ⟨g4, g5, g6⟩ := big_x him (cl 20000 n) hk
  obtain ⟨r3, f3, n3⟩ := float_g g1 ⟨g2, g3⟩
  obtain ⟨r4, f4, n4⟩ := float_g g4 ⟨g5, g6⟩
  have fb := gFloat_s (z := ⟨dv re 0 * dv 1 (cl 20000 n), dv im 0 * dv 1 (cl 20000 n)⟩) f3 f4
  have b3 := bne_of' n3
  have b4 := bne_of' n4
  have sm := gsame_r (RC_C cz) (RC_C cz) (by decide) (by decide)
  rw [decide_eq_true rfl] at sm
  generalize dv re 0 * dv 1 (cl 20000 n) = y1 at *
  generalize dv im 0 * dv 1 (cl 20000 n) = y2 at *
  generalize dv re 0 = c1 at *
  generalize dv im 0 = c2 at *
  simp -implicitDefEqProofs only [go_sem, simprocAttr, -Int.reducePow, Tryd.f4, DD, x_app, x_ga0, x_gas, x_gan, Int.cast_ofNat_Int, eq_self, Int.zero_lt_one, Bool.not_false, Bool.not_true, beq_self_eq_true]
  refine callK_q annuluslaw8_known.call (k0) rfl rfl ?_
  simp -implicitDefEqProofs only [go_sem, simprocAttr, -Int.reducePow, DD, x_app, x_ga0, x_gas, x_gan, Int.cast_ofNat_Int, eq_self, Int.zero_lt_one, Bool.not_false, Bool.not_true, beq_self_eq_true, WI, IA, DI, DA, CI, w1, w2]
  refine callK_q gauss_Of.call (o1) rfl rfl ?_
  simp -implicitDefEqProofs only [go_sem, simprocAttr, -Int.reducePow, DD, x_app, x_ga0, x_gas, x_gan, Int.cast_ofNat_Int, eq_self, Int.zero_lt_one, Bool.not_false, Bool.not_true, beq_self_eq_true, WI, IA, DI, DA, CI]
  refine callK_q gauss_Float.call (ff) rfl rfl ?_
  simp -implicitDefEqProofs only [go_sem, simprocAttr, -Int.reducePow, DD, x_app, x_ga0, x_gas, x_gan, Int.cast_ofNat_Int, eq_self, Int.zero_lt_one, Bool.not_false, Bool.not_true, beq_self_eq_true, WI, IA, DI, DA, CI]
  refine callK_q gauss_Exact.call (xx) rfl rfl ?_
  simp -implicitDefEqProofs only [go_sem, simprocAttr, -Int.reducePow, DD, x_app, x_ga0, x_gas, x_gan, Int.cast_ofNat_Int, eq_self, Int.zero_lt_one, Bool.not_false, Bool.not_true, beq_self_eq_true, WI, IA, DI, DA, CI, w3]
  refine callK_q gauss_Scale.call (sc) rfl rfl ?_
  simp -implicitDefEqProofs only [go_sem, simprocAttr, -Int.reducePow, DD, x_app, x_ga0, x_gas, x_gan, Int.cast_ofNat_Int, eq_self, Int.zero_lt_one, Bool.not_false, Bool.not_true, beq_self_eq_true, WI, IA, DI, DA, CI]
  refine callK_q gauss_Float.call (fb) rfl rfl ?_
  simp -implicitDefEqProofs only [go_sem, simprocAttr, -Int.reducePow, DD, x_app, x_ga0, x_gas, x_gan, Int.cast_ofNat_Int, eq_self, Int.zero_lt_one, Bool.not_false, Bool.not_true, beq_self_eq_true, WI, IA, DI, DA, CI, q1, q2]
  refine callK_q gauss_Same.call (sm) rfl rfl ?_
  simp -implicitDefEqProofs only [go_sem, simprocAttr, -Int.reducePow, DD, x_app, x_ga0, x_gas, x_gan, Int.cast_ofNat_Int, eq_self, Int.zero_lt_one, Bool.not_false, Bool.not_true, beq_self_eq_true, WI, IA, DI, DA, CI, b3, b4]
end Go.Ab
