/- Contracts of this seat's functions (of each call: what it answers), walked over the abstract machine, and the laws of numbers that they want. Conditions: those that each theorem states. -/
import Derived.Test.YtikemgpeiecdcaaGreatDoorD18
set_option linter.unusedVariables false
set_option maxRecDepth 20000
set_option linter.unusedSimpArgs false
set_option linter.unusedSectionVars false
namespace Go.Ab
open Go.Proofs
open Cx (zero one)
attribute [-go_sem] appF newsF
variable {a b : AV} {z w : Cx} {B C n m : Nat} {cs ds : List AV} {f g : Po}
theorem pld_tup2 {x y : AV} (hx : PlD x) (hy : PlD y) : IsD (.tup [x, y]) := isD_tup (fun c hc => by
  simp only [List.mem_cons, List.not_mem_nil, or_false] at hc
  rcases hc with rfl | rfl
  · exact hx.isd
  · exact hy.isd)
theorem two_id (x : Cx) : CI ⟨x.re, x.im⟩ = CI x := rfl
variable {x y : Dyadic}
theorem gtimes_r {b : AV} (ha : RC a z B) (hb : RD b x C) (hB : B + C ≤ 20000) : Sat CT false 46 [a, b] (CI ⟨z.re * x, z.im * x⟩) := by
  refine sat_of gauss_Times.ok (by simp) ?_
  have DD := gauss_Times.dr
  simp only [drP, drPx, drR, drS, bodyOf, Tryz.f46, Nat.reduceEqDiff, reduceIte, true_and, and_true] at DD
  obtain ⟨n, l, e, m, k, f, rfl, hr, hi⟩ := ha
  have q1 := dmul_r hr hb (by omega) (by omega)
  have q2 := dmul_r hi hb (by omega) (by omega)
  obtain ⟨n', l', e', rfl, _⟩ := hb
  simp -implicitDefEqProofs only [go_sem, Nat.reduceAdd, Nat.reduceEqDiff, Nat.reduceLT, reduceIte, reduceCtorEq, Int.reduceLE, Int.reduceLT, Int.reduceEq, Int.reduceAdd, Int.reduceMul, Int.reduceSub, Nat.reduceMul, Nat.reduceSub, Nat.reducePow, Nat.reduceLeDiff, Int.reduceToNat, Tryz.f46, DD, x_app, x_ga0, x_gas, x_gan, Int.cast_ofNat_Int, eq_self, Int.zero_lt_one, Bool.not_false, Bool.not_true, beq_self_eq_true, WI, IA, DI, DA, CI]
  refine callK_of false dyad_Mul.call (q1) rfl rfl (by simp [ownOK, own1, hd, fzH, fzArgs, fzCells, fz, IA, WI, DI, DA, CI, U32]) (by simp [U32, isD_u32, isD_v, isD_nil, isD_agg, IA, WI, DI, DA, CI]) ?_
  simp -implicitDefEqProofs only [go_sem, Nat.reduceAdd, Nat.reduceEqDiff, Nat.reduceLT, reduceIte, reduceCtorEq, Int.reduceLE, Int.reduceLT, Int.reduceEq, Int.reduceAdd, Int.reduceMul, Int.reduceSub, Nat.reduceMul, Nat.reduceSub, Nat.reducePow, Nat.reduceLeDiff, Int.reduceToNat, DD, x_app, x_ga0, x_gas, x_gan, Int.cast_ofNat_Int, eq_self, Int.zero_lt_one, Bool.not_false, Bool.not_true, beq_self_eq_true, WI, IA, DI, DA, CI]
  refine callK_of false dyad_Mul.call (q2) rfl rfl (by simp [ownOK, own1, hd, fzH, fzArgs, fzCells, fz, IA, WI, DI, DA, CI, U32]) (by simp [U32, isD_u32, isD_v, isD_nil, isD_agg, IA, WI, DI, DA, CI]) ?_
  simp -implicitDefEqProofs only [go_sem, Nat.reduceAdd, Nat.reduceEqDiff, Nat.reduceLT, reduceIte, reduceCtorEq, Int.reduceLE, Int.reduceLT, Int.reduceEq, Int.reduceAdd, Int.reduceMul, Int.reduceSub, Nat.reduceMul, Nat.reduceSub, Nat.reducePow, Nat.reduceLeDiff, Int.reduceToNat, DD, x_app, x_ga0, x_gas, x_gan, Int.cast_ofNat_Int, eq_self, Int.zero_lt_one, Bool.not_false, Bool.not_true, beq_self_eq_true, WI, IA, DI, DA, CI]
theorem rtimes8 (hz : CB z B) (hx : DB x C) (hB : B + C ≤ 20000) : Sat CT false 48 [CI z, DI x] (CI ⟨z.re * x, z.im * x⟩) := by
  refine sat_of annulusref8_Times.ok (by simp) ?_
  have DD := annulusref8_Times.dr
  simp only [drP, drPx, drR, drS, bodyOf, Tryz.f48, Nat.reduceEqDiff, reduceIte, true_and, and_true] at DD
  have q1 := rmul4 (RD_D hz.1) (RD_D hx) (by omega) (by omega)
  have q2 := rmul4 (RD_D hz.2) (RD_D hx) (by omega) (by omega)
  simp -implicitDefEqProofs only [go_sem, Nat.reduceAdd, Nat.reduceEqDiff, Nat.reduceLT, reduceIte, reduceCtorEq, Int.reduceLE, Int.reduceLT, Int.reduceEq, Int.reduceAdd, Int.reduceMul, Int.reduceSub, Nat.reduceMul, Nat.reduceSub, Nat.reducePow, Nat.reduceLeDiff, Int.reduceToNat, Tryz.f48, DD, x_app, x_ga0, x_gas, x_gan, Int.cast_ofNat_Int, eq_self, Int.zero_lt_one, Bool.not_false, Bool.not_true, beq_self_eq_true, WI, IA, DI, DA, CI]
  refine callK_of false annulusref4_Mul.call (q1) rfl rfl (by simp [ownOK, own1, hd, fzH, fzArgs, fzCells, fz, IA, WI, DI, DA, CI, U32]) (by simp [U32, isD_u32, isD_v, isD_nil, isD_agg, IA, WI, DI, DA, CI]) ?_
  simp -implicitDefEqProofs only [go_sem, Nat.reduceAdd, Nat.reduceEqDiff, Nat.reduceLT, reduceIte, reduceCtorEq, Int.reduceLE, Int.reduceLT, Int.reduceEq, Int.reduceAdd, Int.reduceMul, Int.reduceSub, Nat.reduceMul, Nat.reduceSub, Nat.reducePow, Nat.reduceLeDiff, Int.reduceToNat, DD, x_app, x_ga0, x_gas, x_gan, Int.cast_ofNat_Int, eq_self, Int.zero_lt_one, Bool.not_false, Bool.not_true, beq_self_eq_true, WI, IA, DI, DA, CI]
  refine callK_of false annulusref4_Mul.call (q2) rfl rfl (by simp [ownOK, own1, hd, fzH, fzArgs, fzCells, fz, IA, WI, DI, DA, CI, U32]) (by simp [U32, isD_u32, isD_v, isD_nil, isD_agg, IA, WI, DI, DA, CI]) ?_
  simp -implicitDefEqProofs only [go_sem, Nat.reduceAdd, Nat.reduceEqDiff, Nat.reduceLT, reduceIte, reduceCtorEq, Int.reduceLE, Int.reduceLT, Int.reduceEq, Int.reduceAdd, Int.reduceMul, Int.reduceSub, Nat.reduceMul, Nat.reduceSub, Nat.reducePow, Nat.reduceLeDiff, Int.reduceToNat, DD, x_app, x_ga0, x_gas, x_gan, Int.cast_ofNat_Int, eq_self, Int.zero_lt_one, Bool.not_false, Bool.not_true, beq_self_eq_true, WI, IA, DI, DA, CI]
theorem MR.setB {cells l : List AV} {N s0 : Nat} {F : Po} {v : Cx} (h : MR cells N F) (h0 : s0 < N) (hb : Blk l v) : MR (spl cells (s0 * 6) l) N (fun s => if s = s0 then v else F s) := by
  have hl := hb.len
  refine ⟨by rw [spl_len (by have := h.1; omega)]; exact h.1, fun s hs => ?_⟩
  rw [blk_spl h.1 hl h0]
  show Blk _ (if s = s0 then v else F s)
  by_cases e : s = s0
  · rw [if_pos e, if_pos e]; exact hb
  · rw [if_neg e, if_neg e]; exact h.2 s hs
theorem th_at (f : Po) (i : Nat) : (⟨(f i).re * dv (i : Int) 0, (f i).im * dv (i : Int) 0⟩ : Cx) = th f i := by
  show _ = nt i * f i
  rw [nt_dv]
  apply Cx.ext'
  · show _ = dv (i : Int) 0 * (f i).re - 0 * (f i).im; grind
  · show _ = dv (i : Int) 0 * (f i).im + 0 * (f i).re; grind
theorem dv_small {v : Int} (h : v.natAbs < 1048576) : DB (dv v 0) 20 := DB.raw (L := 20) (E := 0) h (by decide) (by decide)
theorem PB.th {f : Po} {n : Nat} (h : PB f B) (hs : Sp n f) (hn : n ≤ 1000000) : PB (th f) (B + 20) := fun i => by
  rcases Nat.lt_or_ge i n with q | q
  · rw [← th_at]
    have := dv_small (v := (i : Int)) (by omega)
    exact ⟨(h i).1.mul this, (h i).2.mul this⟩
  · show CB (nt i * f i) _; rw [hs i q, Cx.mul_zero]; exact CB.zero _
theorem PB.der {f : Po} {n : Nat} (h : PB f B) (hs : Sp n f) (hn : n ≤ 1000000) : PB (der f) (B + 20) := fun i => (h.th hs hn) (i + 1)
theorem Sp.der' {n : Nat} {f : Po} (h : Sp n f) : Sp (n - 1) (Go.Ab.der f) := by
  cases n with
  | zero => exact fun k hk => by show nt (k + 1) * f (k + 1) = zero; rw [h (k + 1) (by omega), Cx.mul_zero]
  | succ n => exact h.der
theorem dg_der' {n : Nat} {f : Po} (h : Sp n f) : dg (n - 1) (der f) = dg n f - 1 := by
  cases n with
  | zero => rw [dg0, dg0]
  | succ n => exact dg_der h
theorem pld_DI (d : Dyadic) : PlD (DI d) := pld_dy _ _ _
theorem pderiv_s (h : RP cs n f B) (hB : B ≤ 19000) : Sat CT false 21 [.sl n cs] (PA (dg (n - 1) (der f)) (der f)) := by
  refine sat_of poly_Deriv.ok (by simp) ?_
  have DD := poly_Deriv.dr
  simp only [drP, drPx, drR, drS, bodyOf, Tryz.f21, Nat.reduceEqDiff, reduceIte, true_and, and_true] at DD
  have hn := h.small
  have hlen := h.len
  have hP := h.pb.der h.sp hn
  have hsp := h.sp.der'
  simp -implicitDefEqProofs only [go_sem, Nat.reduceAdd, Nat.reduceEqDiff, Nat.reduceLT, reduceIte, reduceCtorEq, Int.reduceLE, Int.reduceLT, Int.reduceEq, Int.reduceAdd, Int.reduceMul, Int.reduceSub, Nat.reduceMul, Nat.reduceSub, Nat.reducePow, Nat.reduceLeDiff, Int.reduceToNat, Tryz.f21, DD, x_app, x_ga0, x_gas, x_gan, Int.cast_ofNat_Int, eq_self, Int.zero_lt_one, Bool.not_false, Bool.not_true, beq_self_eq_true]
  refine loop_of aW0_mono (fun q σ => ∃ sl H i, σ = ⟨sl, H⟩ ∧ q = n - i ∧ i ≤ n ∧ look sl 6 = .sl n cs ∧ look sl 7 = I64 (n : Nat) ∧ look sl 8 = I64 (i : Nat) ∧ ASl 6 (look sl 3) H (pcl (i - 1) (der f)) (i - 1)) ?_ (n := n)
    ⟨_, _, 0, rfl, rfl, Nat.zero_le _, by simp [x_look], by simp [x_look], by simp [x_look], by simp [x_look, pcl0, ASl.nil]⟩
  rintro q _ ⟨sl, H, i, rfl, rfl, hi, k6, k7, k8, hA⟩
  by_cases hid : i = n
  · subst hid
    simp -implicitDefEqProofs only [go_sem, Nat.reduceAdd, Nat.reduceEqDiff, Nat.reduceLT, reduceIte, reduceCtorEq, Int.reduceLE, Int.reduceLT, Int.reduceEq, Int.reduceAdd, Int.reduceMul, Int.reduceSub, Nat.reduceMul, Nat.reduceSub, Nat.reducePow, Nat.reduceLeDiff, Int.reduceToNat, DD, x_app, x_ga0, x_gas, x_gan, Int.cast_ofNat_Int, eq_self, Int.zero_lt_one, Bool.not_false, Bool.not_true, beq_self_eq_true, k6, k7, k8, Int.lt_irrefl]
    refine callK_ar poly_Trim.call (ptrim_P hP hsp (by omega) (by omega)) (.cons (.row hA.rsl (snap0_pcl _ _) (isD_pcl _ _)) .nil) rfl ?_
    intro H' _
    simp -implicitDefEqProofs only [go_sem, Nat.reduceAdd, Nat.reduceEqDiff, Nat.reduceLT, reduceIte, reduceCtorEq, Int.reduceLE, Int.reduceLT, Int.reduceEq, Int.reduceAdd, Int.reduceMul, Int.reduceSub, Nat.reduceMul, Nat.reduceSub, Nat.reducePow, Nat.reduceLeDiff, Int.reduceToNat, DD, x_app, x_ga0, x_gas, x_gan, Int.cast_ofNat_Int, eq_self, Int.zero_lt_one, Bool.not_false, Bool.not_true, beq_self_eq_true, k6, k7, k8]
    exact ⟨trivial, isD_PA _ _, rfl⟩
  · have c1 : (i : Int) < (n : Int) := by omega
    have ci : IntKind.i64.wrap ((i : Int) + 1) = ((i + 1 : Nat) : Int) := by rw [wrap_id (by omega)]; omega
    have c2 : (0 : Int) ≤ (i : Int) := by omega
    have c4 : i * 6 < cs.length := by omega
    have c5 : i * 6 + 6 ≤ cs.length := by omega
    obtain ⟨s, l, e, t, kk, gg, hc, hr⟩ := h.cells (i := i) (by omega)
    by_cases hi0 : i = 0
    · have c6 : ¬ (0 : Int) < (i : Int) := by omega
      simp -implicitDefEqProofs only [go_sem, Nat.reduceAdd, Nat.reduceEqDiff, Nat.reduceLT, reduceIte, reduceCtorEq, Int.reduceLE, Int.reduceLT, Int.reduceEq, Int.reduceAdd, Int.reduceMul, Int.reduceSub, Nat.reduceMul, Nat.reduceSub, Nat.reducePow, Nat.reduceLeDiff, Int.reduceToNat, DD, x_app, x_ga0, x_gas, x_gan, Int.cast_ofNat_Int, eq_self, Int.zero_lt_one, Bool.not_false, Bool.not_true, beq_self_eq_true, k6, k7, k8, ci, c1, c2, c4, c5, hc, c6]
      exact ⟨n - (i + 1), by omega, _, _, i + 1, rfl, rfl, by omega, by simp [x_look, k6], by simp [x_look, k7], by simp [x_look], by simp only [x_look, reduceIte, Nat.reduceEqDiff]; subst hi0; exact (hA.ext _)⟩
    · have c6 : (0 : Int) < (i : Int) := by omega
      obtain ⟨j, rfl⟩ := pos_of hi0
      have q1 := dofn_sat ((j + 1 : Nat) : Int) (by omega) (by omega)
      have q2 := gtimes_r hr (RD_D (dv_small (v := ((j + 1 : Nat) : Int)) (by omega))) (by omega)
      rw [th_at] at q2
      have q2 : Sat CT false 46 [.agg [Bo s, U32 l, I64 e, Bo t, U32 kk, I64 gg], DI (dv ((j + 1 : Nat) : Int) 0)] (CI (der f j)) := q2
      rw [Nat.add_sub_cancel] at hA
      simp -implicitDefEqProofs only [go_sem, Nat.reduceAdd, Nat.reduceEqDiff, Nat.reduceLT, reduceIte, reduceCtorEq, Int.reduceLE, Int.reduceLT, Int.reduceEq, Int.reduceAdd, Int.reduceMul, Int.reduceSub, Nat.reduceMul, Nat.reduceSub, Nat.reducePow, Nat.reduceLeDiff, Int.reduceToNat, DD, x_app, x_ga0, x_gas, x_gan, Int.cast_ofNat_Int, eq_self, Int.zero_lt_one, Bool.not_false, Bool.not_true, beq_self_eq_true, k6, k7, k8, ci, c1, c2, c4, c5, hc, c6]
      refine callK_pl dyad_Of.call (q1) (pl1 pld_int) ?_
      simp -implicitDefEqProofs only [go_sem, Nat.reduceAdd, Nat.reduceEqDiff, Nat.reduceLT, reduceIte, reduceCtorEq, Int.reduceLE, Int.reduceLT, Int.reduceEq, Int.reduceAdd, Int.reduceMul, Int.reduceSub, Nat.reduceMul, Nat.reduceSub, Nat.reducePow, Nat.reduceLeDiff, Int.reduceToNat, DD, x_app, x_ga0, x_gas, x_gan, Int.cast_ofNat_Int, eq_self, Int.zero_lt_one, Bool.not_false, Bool.not_true, beq_self_eq_true, k6, k7, k8, ci, c1, c2, c4, c5, hc, c6]
      refine callK_pl gauss_Times.call (q2) (pl2 (pld_RC hr) (pld_DI _)) ?_
      simp -implicitDefEqProofs only [go_sem, Nat.reduceAdd, Nat.reduceEqDiff, Nat.reduceLT, reduceIte, reduceCtorEq, Int.reduceLE, Int.reduceLT, Int.reduceEq, Int.reduceAdd, Int.reduceMul, Int.reduceSub, Nat.reduceMul, Nat.reduceSub, Nat.reducePow, Nat.reduceLeDiff, Int.reduceToNat, DD, x_app, x_ga0, x_gas, x_gan, Int.cast_ofNat_Int, eq_self, Int.zero_lt_one, Bool.not_false, Bool.not_true, beq_self_eq_true, k6, k7, k8, ci, c1, c2, c4, c5, hc, c6]
      refine app_step (P := Tryz.prog) tk22 rfl tk29 tk22 rfl rfl (by decide) (n := j) (m := 1) ((hA.ext _).ext _) (.inl ⟨rfl, x_hget⟩) rfl (by decide) rfl (Nat.le_trans (Nat.mul_le_mul_right _ (show j + 1 ≤ 1000001 by omega)) (by decide)) (by omega) ?_
      intro H' hg hl' hk'
      simp -implicitDefEqProofs only [go_sem, Nat.reduceAdd, Nat.reduceEqDiff, Nat.reduceLT, reduceIte, reduceCtorEq, Int.reduceLE, Int.reduceLT, Int.reduceEq, Int.reduceAdd, Int.reduceMul, Int.reduceSub, Nat.reduceMul, Nat.reduceSub, Nat.reducePow, Nat.reduceLeDiff, Int.reduceToNat, DD, x_app, x_ga0, x_gas, x_gan, Int.cast_ofNat_Int, eq_self, Int.zero_lt_one, Bool.not_false, Bool.not_true, beq_self_eq_true, k6, k7, k8, ci, c1, c2, c4, c5, hc, c6]
      exact ⟨n - (j + 1 + 1), by omega, _, _, j + 1 + 1, rfl, rfl, by omega, by simp [x_look, k6], by simp [x_look, k7], by simp [x_look], by simp only [x_look, reduceIte, Nat.reduceEqDiff]; exact ASl.lastP (g := der f) hg hl'⟩
theorem ppart_s (h : RP cs n f B) (hz : RC a z C) (hB : n * (C + 2) + B + C ≤ 19990) (hn0 : 0 < n) : Sat CT false 9 [.sl n cs, a] (.tup [PA (dg n (pq n f z)) (pq n f z), CI (ev n f z)]) := by
  refine sat_of poly_Part.ok (by simp) ?_
  have DD := poly_Part.dr
  simp only [drP, drPx, drR, drS, bodyOf, Tryz.f9, Nat.reduceEqDiff, reduceIte, true_and, and_true] at DD
  have hlen := h.len
  have hn := h.small
  have hzc := hz.cb
  have hpb := h.pb
  have hz0 := hz
  have hvb : ∀ i, CB (ev (n - i) (dp i f) z) (n * (C + 2) + B) := fun i => (CB.ev (hpb.dp i) hzc (n - i)).mono (by have := Nat.mul_le_mul_right (C + 2) (show n - i ≤ n by omega); omega)
  have hqb : PB (pq n f z) (n * (C + 2) + B) := fun i => by
    have := hvb (i + 1)
    rwa [show n - (i + 1) = n - 1 - i by omega] at this
  have hqs : Sp n (pq n f z) := (Sp.pq' f z).mono (by omega)
  have qt := ptrim_P hqb hqs hn (by omega)
  obtain ⟨s, l, e, t, k, g, rfl, _⟩ := hz
  have cn : IntKind.i64.wrap ((n : Int) - 1) = (n : Int) - 1 := wrap_id (by omega)
  simp -implicitDefEqProofs only [go_sem, Nat.reduceAdd, Nat.reduceEqDiff, Nat.reduceLT, reduceIte, reduceCtorEq, Int.reduceLE, Int.reduceLT, Int.reduceEq, Int.reduceAdd, Int.reduceMul, Int.reduceSub, Nat.reduceMul, Nat.reduceSub, Nat.reducePow, Nat.reduceLeDiff, Int.reduceToNat, Tryz.f9, DD, x_app, x_ga0, x_gas, x_gan, Int.cast_ofNat_Int, eq_self, Int.zero_lt_one, Bool.not_false, Bool.not_true, beq_self_eq_true, cn]
  refine ⟨by omega, ?_⟩
  refine loop_fk [2] aW0_mono (fun r σ => ∃ sl l2 cells, σ = ⟨sl, [⟨[Bo s, U32 l, I64 e, Bo t, U32 k, I64 g], true, true⟩, ⟨zc6, true, true⟩, ⟨cells, true, true⟩, ⟨l2, true, true⟩]⟩ ∧ r ≤ n ∧ look sl 0 = .sl n cs ∧ look sl 3 = .ptr 0 0 ∧ look sl 5 = .ptr 1 0 ∧ look sl 6 = .own 6 2 0 n ∧ look sl 7 = .ptr 3 0 ∧ look sl 8 = I64 ((r : Int) - 1) ∧ Blk l2 (ev (n - r) (dp r f) z) ∧ (r < n → l2 = CIc (ev (n - r) (dp r f) z)) ∧ MR cells n (fun i => if r ≤ i then pq n f z i else zero)) ?_ (n := n)
    ⟨_, _, _, rfl, Nat.le_refl _, by simp [x_look], by simp [x_look], by simp [x_look], by simp [x_look], by simp [x_look], by simp [x_look], .inr ⟨by rw [Nat.sub_self, ev0], rfl⟩, fun q => absurd q (Nat.lt_irrefl n), (mr_zero n).congr (fun i => by
      show zero = if n ≤ i then pq n f z i else zero
      split
      · rename_i q; exact (hqs i q).symm
      · rfl)⟩
  rintro r _ ⟨sl, l2, cells, rfl, hr, k0, k3, k5, k6, k7, k8, hb, hb1, hm⟩
  by_cases hr0 : r = 0
  · subst hr0
    have hb1 := hb1 hn0
    rw [Nat.sub_zero, dp0] at hb1
    subst hb1
    have hm := hm.congr (G := pq n f z) (fun i => if_pos (Nat.zero_le i))
    have c1 : ¬ (0 : Int) ≤ ((0 : Nat) : Int) - 1 := by omega
    simp -implicitDefEqProofs only [go_sem, Nat.reduceAdd, Nat.reduceEqDiff, Nat.reduceLT, reduceIte, reduceCtorEq, Int.reduceLE, Int.reduceLT, Int.reduceEq, Int.reduceAdd, Int.reduceMul, Int.reduceSub, Nat.reduceMul, Nat.reduceSub, Nat.reducePow, Nat.reduceLeDiff, Int.reduceToNat, DD, x_app, x_ga0, x_gas, x_gan, Int.cast_ofNat_Int, eq_self, Int.zero_lt_one, Bool.not_false, Bool.not_true, beq_self_eq_true, k0, k3, k5, k6, k7, k8, c1, zc6, fzL]
    refine callK_fz poly_Trim.call qt (.inr ⟨2, rfl, rfl, hm.1⟩) hm.snp (isD_pcl _ _) rfl ?_
    simp -implicitDefEqProofs only [go_sem, Nat.reduceAdd, Nat.reduceEqDiff, Nat.reduceLT, reduceIte, reduceCtorEq, Int.reduceLE, Int.reduceLT, Int.reduceEq, Int.reduceAdd, Int.reduceMul, Int.reduceSub, Nat.reduceMul, Nat.reduceSub, Nat.reducePow, Nat.reduceLeDiff, Int.reduceToNat, DD, x_app, x_ga0, x_gas, x_gan, Int.cast_ofNat_Int, eq_self, Int.zero_lt_one, Bool.not_false, Bool.not_true, beq_self_eq_true, WI, IA, DI, DA, CI, k0, k3, k5, k6, k7, k8, c1, zc6, CIc, fzL]
    exact ⟨trivial, pld_tup2 (pld_PA _ _) (pld_CI _), rfl⟩
  · obtain ⟨i, rfl⟩ := pos_of hr0
    have c1 : ((i + 1 : Nat) : Int) - 1 = (i : Int) := by omega
    rw [c1] at k8
    have c2 : (0 : Int) ≤ (i : Int) := by omega
    have c3 : (i : Int) < (n : Int) := by omega
    have c4 : i * 6 < cs.length := by omega
    have c5 : i * 6 + 6 ≤ cs.length := by omega
    have c6 : i * 6 + 6 ≤ cells.length := by have := hm.1; omega
    have cw : IntKind.i64.wrap ((i : Int) - 1) = (i : Int) - 1 := wrap_id (by omega)
    have hl2 := hb.len
    have ht2 := hb.take
    have hleaf : l2.all leafA = true := by rcases hb with rfl | ⟨_, rfl⟩ <;> rfl
    have hev : ev (n - i) (dp i f) z = ev (n - (i + 1)) (dp (i + 1) f) z * z + f i := by rw [show n - i = n - (i + 1) + 1 by omega, ev_dp]
    obtain ⟨s', l', e', t', k', g', hc, hr'⟩ := h.cells (i := i) (by omega)
    have q1 := gmul_r (RC_C (hvb (i + 1))) hz0 (by omega)
    have q2 := gadd_r (RC_C ((hvb (i + 1)).mul hzc)) hr' (by omega) (by omega)
    rw [← hev] at q2
    have hm2 := hm.setB (s0 := i) (by omega) hb
    have hm2 := hm2.congr (G := fun j => if i ≤ j then pq n f z j else zero) (fun j => by
      show (if j = i then ev (n - (i + 1)) (dp (i + 1) f) z else if i + 1 ≤ j then pq n f z j else zero) = if i ≤ j then pq n f z j else zero
      by_cases e1 : j = i
      · rw [if_pos e1, if_pos (by omega), e1]; show _ = ev (n - 1 - i) _ z; rw [show n - (i + 1) = n - 1 - i by omega]
      · rw [if_neg e1]
        by_cases e2 : i ≤ j
        · rw [if_pos (by omega), if_pos e2]
        · rw [if_neg (by omega), if_neg e2])
    simp -implicitDefEqProofs only [go_sem, Nat.reduceAdd, Nat.reduceEqDiff, Nat.reduceLT, reduceIte, reduceCtorEq, Int.reduceLE, Int.reduceLT, Int.reduceEq, Int.reduceAdd, Int.reduceMul, Int.reduceSub, Nat.reduceMul, Nat.reduceSub, Nat.reducePow, Nat.reduceLeDiff, Int.reduceToNat, DD, x_app, x_ga0, x_gas, x_gan, Int.cast_ofNat_Int, eq_self, Int.zero_lt_one, Bool.not_false, Bool.not_true, beq_self_eq_true, k0, k3, k5, k6, k7, k8, c2, c3, c4, c5, c6, cw, hl2, ht2, hleaf, hc]
    refine callK_pr gauss_Mul.call q1 (.cons hb.plr (.cons (pld_RC hz0).r .nil)) ?_
    simp -implicitDefEqProofs only [go_sem, Nat.reduceAdd, Nat.reduceEqDiff, Nat.reduceLT, reduceIte, reduceCtorEq, Int.reduceLE, Int.reduceLT, Int.reduceEq, Int.reduceAdd, Int.reduceMul, Int.reduceSub, Nat.reduceMul, Nat.reduceSub, Nat.reducePow, Nat.reduceLeDiff, Int.reduceToNat, DD, x_app, x_ga0, x_gas, x_gan, Int.cast_ofNat_Int, eq_self, Int.zero_lt_one, Bool.not_false, Bool.not_true, beq_self_eq_true, k0, k3, k5, k6, k7, k8, c2, c3, c4, c5, c6, cw, hl2, ht2, hleaf, hc]
    refine callK_pr gauss_Add.call q2 (.cons (pld_CI _).r (.cons (pld_RC hr').r .nil)) ?_
    simp -implicitDefEqProofs only [go_sem, Nat.reduceAdd, Nat.reduceEqDiff, Nat.reduceLT, reduceIte, reduceCtorEq, Int.reduceLE, Int.reduceLT, Int.reduceEq, Int.reduceAdd, Int.reduceMul, Int.reduceSub, Nat.reduceMul, Nat.reduceSub, Nat.reducePow, Nat.reduceLeDiff, Int.reduceToNat, DD, x_app, x_ga0, x_gas, x_gan, Int.cast_ofNat_Int, eq_self, Int.zero_lt_one, Bool.not_false, Bool.not_true, beq_self_eq_true, k0, k3, k5, k6, k7, k8, c2, c3, c4, c5, c6, cw, hl2, ht2, hleaf, hc]
    exact ⟨i, by omega, _, _, _, rfl, by omega, by simp [x_look, k0], by simp [x_look, k3], by simp [x_look, k5], by simp [x_look, k6], by simp [x_look, k7], by simp [x_look], .inl rfl, fun _ => rfl, hm2⟩
end Go.Ab
