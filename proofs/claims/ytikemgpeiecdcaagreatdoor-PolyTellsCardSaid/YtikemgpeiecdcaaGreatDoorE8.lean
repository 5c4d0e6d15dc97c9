/- Contracts of this seat's functions (of each call: what it answers), walked over the abstract machine, and the laws of numbers that they want. Conditions: those that each theorem states. -/
import Derived.Test.YtikemgpeiecdcaaGreatDoorE7
set_option linter.unusedVariables false
set_option maxRecDepth 20000
set_option linter.unusedSimpArgs false
set_option linter.unusedSectionVars false
namespace Go.Ab
open Go.Proofs
open Cx (zero one)
attribute [-go_sem] appF newsF
variable {a b : AV} {z w : Cx} {B C n m : Nat} {cs ds : List AV} {f g : Po}
theorem x_rawt {r : Raw} : (Raw.cells r).take 6 = r.cells := rfl
theorem x_rawl {r : Raw} : (Raw.cells r).length = 6 := rfl
theorem x_rawleaf {r : Raw} : (Raw.cells r).all leafA = true := rfl
attribute [go_sem] x_rawt x_rawl x_rawleaf
theorem pld_raw (r : Raw) : PlD (.agg r.cells) := pld_agg lf_raw
theorem isD_zc6 : IsD (.agg zc6) := isD_agg (fun c hc => by
  simp only [zc6, List.mem_cons, List.not_mem_nil, or_false] at hc
  rcases hc with rfl | rfl | rfl | rfl | rfl | rfl <;> exact .v _)
theorem isD_tupz (n : Nat) (f : Po) : IsD (.tup [PA n f, .agg zc6]) := isD_tup (fun c hc => by
  simp only [List.mem_cons, List.not_mem_nil, or_false] at hc
  rcases hc with rfl | rfl
  · exact isD_PA _ _
  · exact isD_zc6)
theorem DI_scl {x : Dyadic} (h : x ≠ 0) (e : Int) : dnum (x * dv 1 e) = dnum x ∧ dexp (x * dv 1 e) = dexp x + e := by
  rw [← dv_at]
  exact ⟨dnum_odd (dnum_odd_of h) _, dexp_odd (dnum_odd_of h) _⟩
theorem zero_scl (e : Int) : (0 : Dyadic) * dv 1 e = 0 := by grind
theorem pq_le {n d : Nat} {f : Po} (hs : Sp d f) (h : d ≤ n) (z : Cx) : pq n f z = pq d f z := by
  funext i
  show ev (n - 1 - i) (dp (i + 1) f) z = ev (d - 1 - i) (dp (i + 1) f) z
  have s : Sp (d - 1 - i) (dp (i + 1) f) := fun k hk => hs _ (by omega)
  exact ev_le s (by omega) z
theorem ppart_0 (hz : RC a z C) : Sat CT false 9 [.sl 0 [], a] (.tup [PA 0 pz, .agg zc6]) := by
  refine sat_of poly_Part.ok (by simp) ?_
  have DD := poly_Part.dr
  simp only [drP, drPx, drR, drS, bodyOf, Tryz.f9, Nat.reduceEqDiff, reduceIte, true_and, and_true] at DD
  have qt := ptrim_P (n := 0) (f := pz) (B := 0) (fun _ => CB.zero 0) (fun _ _ => rfl) (by omega) (by omega)
  rw [dg0] at qt
  obtain ⟨s, l, e, t, k, g, rfl, _⟩ := hz
  have cn : IntKind.i64.wrap ((0 : Int) - 1) = -1 := by decide
  have cn2 : IntKind.i64.wrap (-1 : Int) = -1 := by decide
  have hP0 : PA 0 pz = .sl 0 [] := PA_0 _
  rw [hP0] at qt ⊢
  simp -implicitDefEqProofs only [go_sem, Nat.reduceAdd, Nat.reduceEqDiff, Nat.reduceLT, reduceIte, reduceCtorEq, Int.reduceLE, Int.reduceLT, Int.reduceEq, Int.reduceAdd, Int.reduceMul, Int.reduceSub, Nat.reduceMul, Nat.reduceSub, Nat.reducePow, Nat.reduceLeDiff, Int.reduceToNat, Tryz.f9, DD, x_app, x_ga0, x_gas, x_gan, Int.cast_ofNat_Int, eq_self, Int.zero_lt_one, Bool.not_false, Bool.not_true, beq_self_eq_true, Int.natCast_zero, cn, cn2]
  refine ⟨⟨by decide, by decide⟩, ?_⟩
  refine loop_fk [2] aW0_mono (fun r σ => ∃ sl, σ = ⟨sl, [⟨[Bo s, U32 l, I64 e, Bo t, U32 k, I64 g], true, true⟩, ⟨zc6, true, true⟩, ⟨[], true, true⟩, ⟨zc6, true, true⟩]⟩ ∧ look sl 5 = .ptr 1 0 ∧ look sl 6 = .own 6 2 0 0 ∧ look sl 7 = .ptr 3 0 ∧ look sl 8 = I64 (-1)) ?_ (n := 0)
    (by refine ⟨_, rfl, ?_, ?_, ?_, ?_⟩ <;> simp [x_look])
  rintro r _ ⟨sl, rfl, k5, k6, k7, k8⟩
  simp -implicitDefEqProofs only [go_sem, Nat.reduceAdd, Nat.reduceEqDiff, Nat.reduceLT, reduceIte, reduceCtorEq, Int.reduceLE, Int.reduceLT, Int.reduceEq, Int.reduceAdd, Int.reduceMul, Int.reduceSub, Nat.reduceMul, Nat.reduceSub, Nat.reducePow, Nat.reduceLeDiff, Int.reduceToNat, DD, x_app, x_ga0, x_gas, x_gan, Int.cast_ofNat_Int, eq_self, Int.zero_lt_one, Bool.not_false, Bool.not_true, beq_self_eq_true, k5, k6, k7, k8, zc6, fzL]
  refine callK_fz poly_Trim.call qt (.inr ⟨2, rfl, rfl, rfl⟩) rfl (fun c hc => by cases hc) rfl ?_
  simp -implicitDefEqProofs only [go_sem, Nat.reduceAdd, Nat.reduceEqDiff, Nat.reduceLT, reduceIte, reduceCtorEq, Int.reduceLE, Int.reduceLT, Int.reduceEq, Int.reduceAdd, Int.reduceMul, Int.reduceSub, Nat.reduceMul, Nat.reduceSub, Nat.reducePow, Nat.reduceLeDiff, Int.reduceToNat, DD, x_app, x_ga0, x_gas, x_gan, Int.cast_ofNat_Int, eq_self, Int.zero_lt_one, Bool.not_false, Bool.not_true, beq_self_eq_true, WI, IA, DI, DA, CI, k5, k6, k7, k8, zc6, fzL]
theorem rpart_0 (z : Cx) : Sat CT false 10 [.sl 0 [], CI z] (.tup [.sl 0 [], .agg zc6]) := by
  refine sat_of annulusref11_Part.ok (by simp) ?_
  have DD := annulusref11_Part.dr
  simp only [drP, drPx, drR, drS, bodyOf, Tryz.f10, Nat.reduceEqDiff, reduceIte, true_and, and_true] at DD
  simp -implicitDefEqProofs only [go_sem, Nat.reduceAdd, Nat.reduceEqDiff, Nat.reduceLT, reduceIte, reduceCtorEq, Int.reduceLE, Int.reduceLT, Int.reduceEq, Int.reduceAdd, Int.reduceMul, Int.reduceSub, Nat.reduceMul, Nat.reduceSub, Nat.reducePow, Nat.reduceLeDiff, Int.reduceToNat, Tryz.f10, DD, x_app, x_ga0, x_gas, x_gan, Int.cast_ofNat_Int, eq_self, Int.zero_lt_one, Bool.not_false, Bool.not_true, beq_self_eq_true, Int.natCast_zero]
  exact ⟨by rw [← PA_0 pz]; exact isD_tupz 0 pz, rfl⟩
theorem ppart_any (h : RP cs n f B) (hz : RC a z C) (hB : n * (C + 2) + B + C ≤ 19990) : ∃ l, Blk l (ev n f z) ∧ Sat CT false 9 [.sl n cs, a] (.tup [PA (dg n (pq n f z)) (pq n f z), .agg l]) := by
  by_cases h0 : n = 0
  · subst h0
    have hl := h.len
    have : cs = [] := List.eq_nil_of_length_eq_zero (by omega)
    subst this
    have q := ppart_0 hz
    refine ⟨zc6, .inr ⟨ev0 _ _, rfl⟩, ?_⟩
    rw [dg0, PA_0]
    rw [PA_0] at q
    exact q
  · exact ⟨_, .inl rfl, ppart_s h hz hB (by omega)⟩
theorem rpart_any (h : PB f B) (hs : Sp n f) (hzc : CB z C) (hB : n * (C + 2) + B + C ≤ 19990) (hn : n ≤ 100000) : ∃ l, Blk l (ev n f z) ∧ Sat CT false 10 [PA n f, CI z] (.tup [PA (dg n (pq n f z)) (pq n f z), .agg l]) := by
  by_cases h0 : n = 0
  · subst h0
    refine ⟨zc6, .inr ⟨ev0 _ _, rfl⟩, ?_⟩
    rw [dg0, PA_0, PA_0]
    exact rpart_0 z
  · exact ⟨_, .inl rfl, rpart_s h hs hzc hB (by omega) hn⟩
theorem rscale_h (h : PB f B) (k : Int) (hk : k.natAbs ≤ 1000) (hB : B ≤ 20000) (hn : n ≤ 900) : HSat CT 29 [PA n f, I64 k] [] (fun a H => ASl 6 a H (pcl n (scl (two k) f)) n) := by
  refine hsat_of annulusref11_Scale.ok annulusref11_Scale.call (by simp) ?_
  have DD := annulusref11_Scale.dr
  simp only [drP, drPx, drR, drS, bodyOf, Tryz.f29, Nat.reduceEqDiff, reduceIte, true_and, and_true] at DD
  have hL := pcl_len n f
  have ck : max (-20000) k = k := by omega
  have ck2 : min k 20000 = k := by omega
  simp -implicitDefEqProofs only [go_sem, Nat.reduceAdd, Nat.reduceEqDiff, Nat.reduceLT, reduceIte, reduceCtorEq, Int.reduceLE, Int.reduceLT, Int.reduceEq, Int.reduceAdd, Int.reduceMul, Int.reduceSub, Nat.reduceMul, Nat.reduceSub, Nat.reducePow, Nat.reduceLeDiff, Int.reduceToNat, Tryz.f29, DD, x_app, x_ga0, x_gas, x_gan, Int.cast_ofNat_Int, eq_self, Int.zero_lt_one, Bool.not_false, Bool.not_true, beq_self_eq_true, PA, ck, ck2]
  refine loop_of aW0_mono (fun q σ => ∃ sl H i, σ = ⟨sl, H⟩ ∧ q = n - i ∧ i ≤ n ∧ look sl 0 = .sl n (pcl n f) ∧ look sl 5 = I64 k ∧ look sl 7 = I64 (i : Nat) ∧ ASl 6 (look sl 6) H (pcl i (scl (two k) f)) i) ?_ (n := n)
    ⟨_, _, 0, rfl, rfl, Nat.zero_le _, by simp [x_look], by simp [x_look], by simp [x_look], by simp [x_look, pcl0, ASl.nil]⟩
  rintro q _ ⟨sl, H, i, rfl, rfl, hi, k0, k5, k7, hA⟩
  by_cases hid : i = n
  · subst hid
    simp -implicitDefEqProofs only [go_sem, Nat.reduceAdd, Nat.reduceEqDiff, Nat.reduceLT, reduceIte, reduceCtorEq, Int.reduceLE, Int.reduceLT, Int.reduceEq, Int.reduceAdd, Int.reduceMul, Int.reduceSub, Nat.reduceMul, Nat.reduceSub, Nat.reducePow, Nat.reduceLeDiff, Int.reduceToNat, DD, x_app, x_ga0, x_gas, x_gan, Int.cast_ofNat_Int, eq_self, Int.zero_lt_one, Bool.not_false, Bool.not_true, beq_self_eq_true, k0, k5, k7, Int.lt_irrefl]
    exact hA
  · have c1 : (i : Int) < (n : Int) := by omega
    have ci : IntKind.i64.wrap ((i : Int) + 1) = ((i + 1 : Nat) : Int) := by rw [wrap_id (by omega)]; omega
    have c2 : (0 : Int) ≤ (i : Int) := by omega
    have c4 : i * 6 < n * 6 := by omega
    have c5 : i * 6 + 6 ≤ n * 6 := by omega
    have hc := pcl_el f (show i < n by omega)
    have hki : ((i : Int) * k).natAbs ≤ 900 * 1000 := by rw [Int.natAbs_mul]; exact Nat.mul_le_mul (by omega) hk
    have w1 : IntKind.i64.wrap ((i : Int) * k) = (i : Int) * k := wrap_id (by omega)
    have b1 := (h i).1.num
    have b2 := (h i).2.num
    have w2 : IntKind.i64.wrap (dexp (f i).re + (i : Int) * k) = dexp (f i).re + (i : Int) * k := wrap_id (by omega)
    have w3 : IntKind.i64.wrap (dexp (f i).im + (i : Int) * k) = dexp (f i).im + (i : Int) * k := wrap_id (by omega)
    have q1 := rsign4_r (RD_D (h i).1) hB
    have q2 := rsign4_r (RD_D (h i).2) hB
    have es : CIc (scl (two k) f i) = CIc ⟨(f i).re * dv 1 ((i : Int) * k), (f i).im * dv 1 ((i : Int) * k)⟩ := by rw [scl_at, Int.mul_comm k]
    by_cases hx : (f i).re = 0
    · have s1 := sg_zero hx
      by_cases hy : (f i).im = 0
      · have s2 := sg_zero hy
        have hcell : CIc (scl (two k) f i) = [Bo (decide (dnum (f i).re < 0)), U32 (lim (dnum (f i).re).natAbs), I64 (dexp (f i).re), Bo (decide (dnum (f i).im < 0)), U32 (lim (dnum (f i).im).natAbs), I64 (dexp (f i).im)] := by
          rw [es]
          show [Bo (decide (dnum ((f i).re * _) < 0)), U32 (lim (dnum ((f i).re * _)).natAbs), I64 (dexp ((f i).re * _)), Bo (decide (dnum ((f i).im * _) < 0)), U32 (lim (dnum ((f i).im * _)).natAbs), I64 (dexp ((f i).im * _))] = _
          rw [hx, zero_scl]
          rw [hy, zero_scl]
        simp -implicitDefEqProofs only [go_sem, Nat.reduceAdd, Nat.reduceEqDiff, Nat.reduceLT, reduceIte, reduceCtorEq, Int.reduceLE, Int.reduceLT, Int.reduceEq, Int.reduceAdd, Int.reduceMul, Int.reduceSub, Nat.reduceMul, Nat.reduceSub, Nat.reducePow, Nat.reduceLeDiff, Int.reduceToNat, DD, x_app, x_ga0, x_gas, x_gan, Int.cast_ofNat_Int, eq_self, Int.zero_lt_one, Bool.not_false, Bool.not_true, beq_self_eq_true, k0, k5, k7, ci, c1, c2, c4, c5, hL, hc, w1, w2, w3, s1, s2, CIc]
        refine callK_pl annulusref4_Sign.call (q1) (pl1 (pld_DI _)) ?_
        simp -implicitDefEqProofs only [go_sem, Nat.reduceAdd, Nat.reduceEqDiff, Nat.reduceLT, reduceIte, reduceCtorEq, Int.reduceLE, Int.reduceLT, Int.reduceEq, Int.reduceAdd, Int.reduceMul, Int.reduceSub, Nat.reduceMul, Nat.reduceSub, Nat.reducePow, Nat.reduceLeDiff, Int.reduceToNat, DD, x_app, x_ga0, x_gas, x_gan, Int.cast_ofNat_Int, eq_self, Int.zero_lt_one, Bool.not_false, Bool.not_true, beq_self_eq_true, k0, k5, k7, ci, c1, c2, c4, c5, hL, hc, w1, w2, w3, s1, s2, CIc]
        refine callK_pl annulusref4_Sign.call (q2) (pl1 (pld_DI _)) ?_
        simp -implicitDefEqProofs only [go_sem, Nat.reduceAdd, Nat.reduceEqDiff, Nat.reduceLT, reduceIte, reduceCtorEq, Int.reduceLE, Int.reduceLT, Int.reduceEq, Int.reduceAdd, Int.reduceMul, Int.reduceSub, Nat.reduceMul, Nat.reduceSub, Nat.reducePow, Nat.reduceLeDiff, Int.reduceToNat, DD, x_app, x_ga0, x_gas, x_gan, Int.cast_ofNat_Int, eq_self, Int.zero_lt_one, Bool.not_false, Bool.not_true, beq_self_eq_true, k0, k5, k7, ci, c1, c2, c4, c5, hL, hc, w1, w2, w3, s1, s2, CIc]
        refine app_step (P := Tryz.prog) tk22 rfl tk29 tk22 rfl rfl (by decide) (n := i) (m := 1) ((hA.ext _).ext _) (.inl ⟨rfl, x_hget⟩) rfl (by decide) rfl (Nat.le_trans (Nat.mul_le_mul_right _ (show i + 1 ≤ 1000001 by omega)) (by decide)) (by omega) ?_
        intro H' hg hl' hk'
        simp -implicitDefEqProofs only [go_sem, Nat.reduceAdd, Nat.reduceEqDiff, Nat.reduceLT, reduceIte, reduceCtorEq, Int.reduceLE, Int.reduceLT, Int.reduceEq, Int.reduceAdd, Int.reduceMul, Int.reduceSub, Nat.reduceMul, Nat.reduceSub, Nat.reducePow, Nat.reduceLeDiff, Int.reduceToNat, DD, x_app, x_ga0, x_gas, x_gan, Int.cast_ofNat_Int, eq_self, Int.zero_lt_one, Bool.not_false, Bool.not_true, beq_self_eq_true, k0, k5, k7, ci, c1, c2, c4, c5, hL, hc, w1, w2, w3, s1, s2, CIc]
        exact ⟨n - (i + 1), by omega, _, _, i + 1, rfl, rfl, by omega, by simp [x_look, k0], by simp [x_look, k5], by simp [x_look], by simp only [x_look, reduceIte, Nat.reduceEqDiff]; exact ASl.lastP (g := scl (two k) f) (by rw [hcell]; exact hg) hl'⟩
      · have s2 := sg_ne hy
        have hcell : CIc (scl (two k) f i) = [Bo (decide (dnum (f i).re < 0)), U32 (lim (dnum (f i).re).natAbs), I64 (dexp (f i).re), Bo (decide (dnum (f i).im < 0)), U32 (lim (dnum (f i).im).natAbs), I64 (dexp (f i).im + (i : Int) * k)] := by
          rw [es]
          show [Bo (decide (dnum ((f i).re * _) < 0)), U32 (lim (dnum ((f i).re * _)).natAbs), I64 (dexp ((f i).re * _)), Bo (decide (dnum ((f i).im * _) < 0)), U32 (lim (dnum ((f i).im * _)).natAbs), I64 (dexp ((f i).im * _))] = _
          rw [hx, zero_scl]
          rw [(DI_scl hy _).1, (DI_scl hy _).2]
        simp -implicitDefEqProofs only [go_sem, Nat.reduceAdd, Nat.reduceEqDiff, Nat.reduceLT, reduceIte, reduceCtorEq, Int.reduceLE, Int.reduceLT, Int.reduceEq, Int.reduceAdd, Int.reduceMul, Int.reduceSub, Nat.reduceMul, Nat.reduceSub, Nat.reducePow, Nat.reduceLeDiff, Int.reduceToNat, DD, x_app, x_ga0, x_gas, x_gan, Int.cast_ofNat_Int, eq_self, Int.zero_lt_one, Bool.not_false, Bool.not_true, beq_self_eq_true, k0, k5, k7, ci, c1, c2, c4, c5, hL, hc, w1, w2, w3, s1, s2, CIc]
        refine callK_pl annulusref4_Sign.call (q1) (pl1 (pld_DI _)) ?_
        simp -implicitDefEqProofs only [go_sem, Nat.reduceAdd, Nat.reduceEqDiff, Nat.reduceLT, reduceIte, reduceCtorEq, Int.reduceLE, Int.reduceLT, Int.reduceEq, Int.reduceAdd, Int.reduceMul, Int.reduceSub, Nat.reduceMul, Nat.reduceSub, Nat.reducePow, Nat.reduceLeDiff, Int.reduceToNat, DD, x_app, x_ga0, x_gas, x_gan, Int.cast_ofNat_Int, eq_self, Int.zero_lt_one, Bool.not_false, Bool.not_true, beq_self_eq_true, k0, k5, k7, ci, c1, c2, c4, c5, hL, hc, w1, w2, w3, s1, s2, CIc]
        refine callK_pl annulusref4_Sign.call (q2) (pl1 (pld_DI _)) ?_
        simp -implicitDefEqProofs only [go_sem, Nat.reduceAdd, Nat.reduceEqDiff, Nat.reduceLT, reduceIte, reduceCtorEq, Int.reduceLE, Int.reduceLT, Int.reduceEq, Int.reduceAdd, Int.reduceMul, Int.reduceSub, Nat.reduceMul, Nat.reduceSub, Nat.reducePow, Nat.reduceLeDiff, Int.reduceToNat, DD, x_app, x_ga0, x_gas, x_gan, Int.cast_ofNat_Int, eq_self, Int.zero_lt_one, Bool.not_false, Bool.not_true, beq_self_eq_true, k0, k5, k7, ci, c1, c2, c4, c5, hL, hc, w1, w2, w3, s1, s2, CIc]
        refine app_step (P := Tryz.prog) tk22 rfl tk29 tk22 rfl rfl (by decide) (n := i) (m := 1) ((hA.ext _).ext _) (.inl ⟨rfl, x_hget⟩) rfl (by decide) rfl (Nat.le_trans (Nat.mul_le_mul_right _ (show i + 1 ≤ 1000001 by omega)) (by decide)) (by omega) ?_
        intro H' hg hl' hk'
        simp -implicitDefEqProofs only [go_sem, Nat.reduceAdd, Nat.reduceEqDiff, Nat.reduceLT, reduceIte, reduceCtorEq, Int.reduceLE, Int.reduceLT, Int.reduceEq, Int.reduceAdd, Int.reduceMul, Int.reduceSub, Nat.reduceMul, Nat.reduceSub, Nat.reducePow, Nat.reduceLeDiff, Int.reduceToNat, DD, x_app, x_ga0, x_gas, x_gan, Int.cast_ofNat_Int, eq_self, Int.zero_lt_one, Bool.not_false, Bool.not_true, beq_self_eq_true, k0, k5, k7, ci, c1, c2, c4, c5, hL, hc, w1, w2, w3, s1, s2, CIc]
        exact ⟨n - (i + 1), by omega, _, _, i + 1, rfl, rfl, by omega, by simp [x_look, k0], by simp [x_look, k5], by simp [x_look], by simp only [x_look, reduceIte, Nat.reduceEqDiff]; exact ASl.lastP (g := scl (two k) f) (by rw [hcell]; exact hg) hl'⟩
    · have s1 := sg_ne hx
      by_cases hy : (f i).im = 0
      · have s2 := sg_zero hy
        have hcell : CIc (scl (two k) f i) = [Bo (decide (dnum (f i).re < 0)), U32 (lim (dnum (f i).re).natAbs), I64 (dexp (f i).re + (i : Int) * k), Bo (decide (dnum (f i).im < 0)), U32 (lim (dnum (f i).im).natAbs), I64 (dexp (f i).im)] := by
          rw [es]
          show [Bo (decide (dnum ((f i).re * _) < 0)), U32 (lim (dnum ((f i).re * _)).natAbs), I64 (dexp ((f i).re * _)), Bo (decide (dnum ((f i).im * _) < 0)), U32 (lim (dnum ((f i).im * _)).natAbs), I64 (dexp ((f i).im * _))] = _
          rw [(DI_scl hx _).1, (DI_scl hx _).2]
          rw [hy, zero_scl]
        simp -implicitDefEqProofs only [go_sem, Nat.reduceAdd, Nat.reduceEqDiff, Nat.reduceLT, reduceIte, reduceCtorEq, Int.reduceLE, Int.reduceLT, Int.reduceEq, Int.reduceAdd, Int.reduceMul, Int.reduceSub, Nat.reduceMul, Nat.reduceSub, Nat.reducePow, Nat.reduceLeDiff, Int.reduceToNat, DD, x_app, x_ga0, x_gas, x_gan, Int.cast_ofNat_Int, eq_self, Int.zero_lt_one, Bool.not_false, Bool.not_true, beq_self_eq_true, k0, k5, k7, ci, c1, c2, c4, c5, hL, hc, w1, w2, w3, s1, s2, CIc]
        refine callK_pl annulusref4_Sign.call (q1) (pl1 (pld_DI _)) ?_
        simp -implicitDefEqProofs only [go_sem, Nat.reduceAdd, Nat.reduceEqDiff, Nat.reduceLT, reduceIte, reduceCtorEq, Int.reduceLE, Int.reduceLT, Int.reduceEq, Int.reduceAdd, Int.reduceMul, Int.reduceSub, Nat.reduceMul, Nat.reduceSub, Nat.reducePow, Nat.reduceLeDiff, Int.reduceToNat, DD, x_app, x_ga0, x_gas, x_gan, Int.cast_ofNat_Int, eq_self, Int.zero_lt_one, Bool.not_false, Bool.not_true, beq_self_eq_true, k0, k5, k7, ci, c1, c2, c4, c5, hL, hc, w1, w2, w3, s1, s2, CIc]
        refine callK_pl annulusref4_Sign.call (q2) (pl1 (pld_DI _)) ?_
        simp -implicitDefEqProofs only [go_sem, Nat.reduceAdd, Nat.reduceEqDiff, Nat.reduceLT, reduceIte, reduceCtorEq, Int.reduceLE, Int.reduceLT, Int.reduceEq, Int.reduceAdd, Int.reduceMul, Int.reduceSub, Nat.reduceMul, Nat.reduceSub, Nat.reducePow, Nat.reduceLeDiff, Int.reduceToNat, DD, x_app, x_ga0, x_gas, x_gan, Int.cast_ofNat_Int, eq_self, Int.zero_lt_one, Bool.not_false, Bool.not_true, beq_self_eq_true, k0, k5, k7, ci, c1, c2, c4, c5, hL, hc, w1, w2, w3, s1, s2, CIc]
        refine app_step (P := Tryz.prog) tk22 rfl tk29 tk22 rfl rfl (by decide) (n := i) (m := 1) ((hA.ext _).ext _) (.inl ⟨rfl, x_hget⟩) rfl (by decide) rfl (Nat.le_trans (Nat.mul_le_mul_right _ (show i + 1 ≤ 1000001 by omega)) (by decide)) (by omega) ?_
        intro H' hg hl' hk'
        simp -implicitDefEqProofs only [go_sem, Nat.reduceAdd, Nat.reduceEqDiff, Nat.reduceLT, reduceIte, reduceCtorEq, Int.reduceLE, Int.reduceLT, Int.reduceEq, Int.reduceAdd, Int.reduceMul, Int.reduceSub, Nat.reduceMul, Nat.reduceSub, Nat.reducePow, Nat.reduceLeDiff, Int.reduceToNat, DD, x_app, x_ga0, x_gas, x_gan, Int.cast_ofNat_Int, eq_self, Int.zero_lt_one, Bool.not_false, Bool.not_true, beq_self_eq_true, k0, k5, k7, ci, c1, c2, c4, c5, hL, hc, w1, w2, w3, s1, s2, CIc]
        exact ⟨n - (i + 1), by omega, _, _, i + 1, rfl, rfl, by omega, by simp [x_look, k0], by simp [x_look, k5], by simp [x_look], by simp only [x_look, reduceIte, Nat.reduceEqDiff]; exact ASl.lastP (g := scl (two k) f) (by rw [hcell]; exact hg) hl'⟩
      · have s2 := sg_ne hy
        have hcell : CIc (scl (two k) f i) = [Bo (decide (dnum (f i).re < 0)), U32 (lim (dnum (f i).re).natAbs), I64 (dexp (f i).re + (i : Int) * k), Bo (decide (dnum (f i).im < 0)), U32 (lim (dnum (f i).im).natAbs), I64 (dexp (f i).im + (i : Int) * k)] := by
          rw [es]
          show [Bo (decide (dnum ((f i).re * _) < 0)), U32 (lim (dnum ((f i).re * _)).natAbs), I64 (dexp ((f i).re * _)), Bo (decide (dnum ((f i).im * _) < 0)), U32 (lim (dnum ((f i).im * _)).natAbs), I64 (dexp ((f i).im * _))] = _
          rw [(DI_scl hx _).1, (DI_scl hx _).2]
          rw [(DI_scl hy _).1, (DI_scl hy _).2]
        simp -implicitDefEqProofs only [go_sem, Nat.reduceAdd, Nat.reduceEqDiff, Nat.reduceLT, reduceIte, reduceCtorEq, Int.reduceLE, Int.reduceLT, Int.reduceEq, Int.reduceAdd, Int.reduceMul, Int.reduceSub, Nat.reduceMul, Nat.reduceSub, Nat.reducePow, Nat.reduceLeDiff, Int.reduceToNat, DD, x_app, x_ga0, x_gas, x_gan, Int.cast_ofNat_Int, eq_self, Int.zero_lt_one, Bool.not_false, Bool.not_true, beq_self_eq_true, k0, k5, k7, ci, c1, c2, c4, c5, hL, hc, w1, w2, w3, s1, s2, CIc]
        refine callK_pl annulusref4_Sign.call (q1) (pl1 (pld_DI _)) ?_
        simp -implicitDefEqProofs only [go_sem, Nat.reduceAdd, Nat.reduceEqDiff, Nat.reduceLT, reduceIte, reduceCtorEq, Int.reduceLE, Int.reduceLT, Int.reduceEq, Int.reduceAdd, Int.reduceMul, Int.reduceSub, Nat.reduceMul, Nat.reduceSub, Nat.reducePow, Nat.reduceLeDiff, Int.reduceToNat, DD, x_app, x_ga0, x_gas, x_gan, Int.cast_ofNat_Int, eq_self, Int.zero_lt_one, Bool.not_false, Bool.not_true, beq_self_eq_true, k0, k5, k7, ci, c1, c2, c4, c5, hL, hc, w1, w2, w3, s1, s2, CIc]
        refine callK_pl annulusref4_Sign.call (q2) (pl1 (pld_DI _)) ?_
        simp -implicitDefEqProofs only [go_sem, Nat.reduceAdd, Nat.reduceEqDiff, Nat.reduceLT, reduceIte, reduceCtorEq, Int.reduceLE, Int.reduceLT, Int.reduceEq, Int.reduceAdd, Int.reduceMul, Int.reduceSub, Nat.reduceMul, Nat.reduceSub, Nat.reducePow, Nat.reduceLeDiff, Int.reduceToNat, DD, x_app, x_ga0, x_gas, x_gan, Int.cast_ofNat_Int, eq_self, Int.zero_lt_one, Bool.not_false, Bool.not_true, beq_self_eq_true, k0, k5, k7, ci, c1, c2, c4, c5, hL, hc, w1, w2, w3, s1, s2, CIc]
        refine app_step (P := Tryz.prog) tk22 rfl tk29 tk22 rfl rfl (by decide) (n := i) (m := 1) ((hA.ext _).ext _) (.inl ⟨rfl, x_hget⟩) rfl (by decide) rfl (Nat.le_trans (Nat.mul_le_mul_right _ (show i + 1 ≤ 1000001 by omega)) (by decide)) (by omega) ?_
        intro H' hg hl' hk'
        simp -implicitDefEqProofs only [go_sem, Nat.reduceAdd, Nat.reduceEqDiff, Nat.reduceLT, reduceIte, reduceCtorEq, Int.reduceLE, Int.reduceLT, Int.reduceEq, Int.reduceAdd, Int.reduceMul, Int.reduceSub, Nat.reduceMul, Nat.reduceSub, Nat.reducePow, Nat.reduceLeDiff, Int.reduceToNat, DD, x_app, x_ga0, x_gas, x_gan, Int.cast_ofNat_Int, eq_self, Int.zero_lt_one, Bool.not_false, Bool.not_true, beq_self_eq_true, k0, k5, k7, ci, c1, c2, c4, c5, hL, hc, w1, w2, w3, s1, s2, CIc]
        exact ⟨n - (i + 1), by omega, _, _, i + 1, rfl, rfl, by omega, by simp [x_look, k0], by simp [x_look, k5], by simp [x_look], by simp only [x_look, reduceIte, Nat.reduceEqDiff]; exact ASl.lastP (g := scl (two k) f) (by rw [hcell]; exact hg) hl'⟩
theorem rscale_s (h : PB f B) (k : Int) (hk : k.natAbs ≤ 1000) (hB : B ≤ 20000) (hn : n ≤ 900) : Sat CT false 29 [PA n f, I64 k] (PA n (scl (two k) f)) := sat_of_hsat (rscale_h h k hk hB hn) (fun a H' q => ret_ASl q)
end Go.Ab
