/- Contracts of this seat's functions (of each call: what it answers), walked over the abstract machine, and the laws of numbers that they want. Conditions: those that each theorem states. -/
import Derived.Test.YtikemgpeiecdcaaGreatDoorE1
set_option linter.unusedVariables false
set_option maxRecDepth 20000
set_option linter.unusedSimpArgs false
set_option linter.unusedSectionVars false
namespace Go.Ab
open Go.Proofs
open Cx (zero one)
attribute [-go_sem] appF newsF
variable {a b : AV} {z w : Cx} {B C n m : Nat} {cs ds : List AV} {f g : Po}
theorem pshift_s (h : RP cs n f B) (hz : RC a z C) (hB : B + n * C + 2 * n * n + n * (C + 2) + C ≤ 19990) (hcs : ∀ c ∈ cs, IsD c) (hn : n ≤ 100000) : Sat CT false 26 [.sl n cs, a] (PA (dg n f) (shf n f z)) := by
  refine sat_of poly_Shift.ok (by simp) ?_
  have DD := poly_Shift.dr
  simp only [drP, drPx, drR, drS, bodyOf, Tryz.f26, Nat.reduceEqDiff, reduceIte, true_and, and_true] at DD
  have hs := dg_sp h.sp
  have hle := dg_le n f
  have hself := dg_self h.sp
  have hpb := h.pb
  have hzb := hz.cb
  have q0 := ptrim_s h (by omega)
  have hshf : shf n f z = shf (dg n f) f z := ev_uniq (Sp.shf n f z) ((Sp.shf (dg n f) f z).mono hle) (fun w => by
    rw [ev_shf, ev_le (Sp.shf (dg n f) f z) hle, ev_shf, ev_le hs hle])
  rw [hshf]
  generalize dg n f = d at *
  have hwb := hpb.wb (C := C) hs
  have m1 := Nat.mul_le_mul_right C hle
  have m2 := Nat.mul_le_mul (Nat.mul_le_mul_left 2 hle) hle
  have m3 := Nat.mul_le_mul_right (C + 2) hle
  have hI : ∀ i, i ≤ d → PB (pqI d f z i) (B + d * C + 2 * d * d) := fun i hi => ((hwb.pqI hzb i).pb).mono (Nat.add_le_add_left (Nat.mul_le_mul_left (2 * d) hi) _)
  have hO : PB (shf d f z) (B + d * C + 2 * d * d) := hwb.shf d hzb
  have qe : ∀ i, i < d → Sat CT false 9 [PA (d - i) (pqI d f z i), a] (.tup [PA (d - (i + 1)) (pqI d f z (i + 1)), CI (shf d f z i)]) := fun i hi => by
    obtain ⟨t1, t2⟩ := pqI_top z hs hself i (by omega)
    have m4 := Nat.mul_le_mul_right (C + 2) (show d - i ≤ n by omega)
    have q := ppart_s (RP_P (hI i (by omega)) t1 (by omega)) hz (by omega) (by omega)
    obtain ⟨t3, t4⟩ := pqI_top z hs hself (i + 1) hi
    rw [← pqIS, ← shf_at d f z i hi, dg_ind (t3.mono (by omega)) t3, t4] at q
    exact q
  have qt := ptrim_P hO (Sp.shf d f z) (by omega) (by omega)
  rw [dg_shf hs hself] at qt
  have hz0 := hz
  obtain ⟨s, l, e, t, k, g, rfl, _⟩ := hz
  simp -implicitDefEqProofs only [go_sem, Nat.reduceAdd, Nat.reduceEqDiff, Nat.reduceLT, reduceIte, reduceCtorEq, Int.reduceLE, Int.reduceLT, Int.reduceEq, Int.reduceAdd, Int.reduceMul, Int.reduceSub, Nat.reduceMul, Nat.reduceSub, Nat.reducePow, Nat.reduceLeDiff, Int.reduceToNat, Tryz.f26, DD, x_app, x_ga0, x_gas, x_gan, Int.cast_ofNat_Int, eq_self, Int.zero_lt_one, Bool.not_false, Bool.not_true, beq_self_eq_true]
  refine callK_pl poly_Trim.call (q0) (pl1 (pld_sl hcs)) ?_
  simp -implicitDefEqProofs only [go_sem, Nat.reduceAdd, Nat.reduceEqDiff, Nat.reduceLT, reduceIte, reduceCtorEq, Int.reduceLE, Int.reduceLT, Int.reduceEq, Int.reduceAdd, Int.reduceMul, Int.reduceSub, Nat.reduceMul, Nat.reduceSub, Nat.reducePow, Nat.reduceLeDiff, Int.reduceToNat, DD, x_app, x_ga0, x_gas, x_gan, Int.cast_ofNat_Int, eq_self, Int.zero_lt_one, Bool.not_false, Bool.not_true, beq_self_eq_true]
  refine loop_of aW0_mono (fun q σ => ∃ sl H i, σ = ⟨sl, H⟩ ∧ q = d - i ∧ i ≤ d ∧ look sl 3 = .ptr 0 0 ∧ look sl 6 = PA (d - i) (pqI d f z i) ∧ 0 < H.length ∧ H.getD 0 ⟨[], false, false⟩ = ⟨[Bo s, U32 l, I64 e, Bo t, U32 k, I64 g], true, true⟩ ∧ ASl 6 (look sl 5) H (pcl i (shf d f z)) i ∧ ∀ x, look sl 5 ≠ .own 6 0 0 x) ?_ (n := d)
    ⟨_, _, 0, rfl, rfl, Nat.zero_le _, by simp [x_look], by simp only [x_look, reduceIte, Nat.reduceEqDiff, pqI0]; rfl, by simp, rfl, by simp [x_look, pcl0, ASl.nil], fun x e => by simp [x_look] at e⟩
  rintro q _ ⟨sl, H, i, rfl, rfl, hi, k3, k6, hH, hg0, hA, hne⟩
  have hP : PA (d - i) (pqI d f z i) = .sl (d - i) (pcl (d - i) (pqI d f z i)) := rfl
  by_cases hid : i = d
  · subst hid
    have c1 : ((i - i : Nat) : Int) = 0 := by omega
    simp -implicitDefEqProofs only [go_sem, Nat.reduceAdd, Nat.reduceEqDiff, Nat.reduceLT, reduceIte, reduceCtorEq, Int.reduceLE, Int.reduceLT, Int.reduceEq, Int.reduceAdd, Int.reduceMul, Int.reduceSub, Nat.reduceMul, Nat.reduceSub, Nat.reducePow, Nat.reduceLeDiff, Int.reduceToNat, DD, x_app, x_ga0, x_gas, x_gan, Int.cast_ofNat_Int, eq_self, Int.zero_lt_one, Bool.not_false, Bool.not_true, beq_self_eq_true, k3, k6, hP, c1, Int.lt_irrefl]
    refine callK_ar poly_Trim.call (qt) (.cons (.row hA.rsl (snap0_pcl _ _) (isD_pcl _ _)) .nil) rfl ?_
    intro H' _
    simp -implicitDefEqProofs only [go_sem, Nat.reduceAdd, Nat.reduceEqDiff, Nat.reduceLT, reduceIte, reduceCtorEq, Int.reduceLE, Int.reduceLT, Int.reduceEq, Int.reduceAdd, Int.reduceMul, Int.reduceSub, Nat.reduceMul, Nat.reduceSub, Nat.reducePow, Nat.reduceLeDiff, Int.reduceToNat, DD, x_app, x_ga0, x_gas, x_gan, Int.cast_ofNat_Int, eq_self, Int.zero_lt_one, Bool.not_false, Bool.not_true, beq_self_eq_true, k3, k6, hP]
    exact ⟨trivial, isD_PA _ _, rfl⟩
  · have c1 : (0 : Int) < ((d - i : Nat) : Int) := by omega
    have g0 : ∀ y, (H ++ [y]).getD 0 ⟨[], false, false⟩ = ⟨[Bo s, U32 l, I64 e, Bo t, U32 k, I64 g], true, true⟩ := fun y => by rw [getD_hp hH]; exact hg0
    simp -implicitDefEqProofs only [go_sem, Nat.reduceAdd, Nat.reduceEqDiff, Nat.reduceLT, reduceIte, reduceCtorEq, Int.reduceLE, Int.reduceLT, Int.reduceEq, Int.reduceAdd, Int.reduceMul, Int.reduceSub, Nat.reduceMul, Nat.reduceSub, Nat.reducePow, Nat.reduceLeDiff, Int.reduceToNat, DD, x_app, x_ga0, x_gas, x_gan, Int.cast_ofNat_Int, eq_self, Int.zero_lt_one, Bool.not_false, Bool.not_true, beq_self_eq_true, k3, k6, hP, c1, hg0, g0]
    refine callK_pl poly_Part.call (qe i (by omega)) (pl2 (pld_PA _ _) (pld_RC hz0)) ?_
    simp -implicitDefEqProofs only [go_sem, Nat.reduceAdd, Nat.reduceEqDiff, Nat.reduceLT, reduceIte, reduceCtorEq, Int.reduceLE, Int.reduceLT, Int.reduceEq, Int.reduceAdd, Int.reduceMul, Int.reduceSub, Nat.reduceMul, Nat.reduceSub, Nat.reducePow, Nat.reduceLeDiff, Int.reduceToNat, DD, x_app, x_ga0, x_gas, x_gan, Int.cast_ofNat_Int, eq_self, Int.zero_lt_one, Bool.not_false, Bool.not_true, beq_self_eq_true, k3, k6, hP, c1, hg0, g0]
    refine app_step (P := Tryz.prog) tk22 rfl tk29 tk22 rfl rfl (by decide) (n := i) (m := 1) ((hA.ext _).ext _) (.inl ⟨rfl, x_hget⟩) rfl (by decide) rfl (Nat.le_trans (Nat.mul_le_mul_right _ (show i + 1 ≤ 1000001 by omega)) (by decide)) (by omega) ?_
    intro H' hg hl' hk'
    have g2 : H'.getD 0 ⟨[], false, false⟩ = ⟨[Bo s, U32 l, I64 e, Bo t, U32 k, I64 g], true, true⟩ := by rw [hk' 0 (by simp) (hne i), getD_hp (by simp)]; exact g0 _
    have hlen : H'.length = H.length + 3 := by rw [hl']; simp
    simp -implicitDefEqProofs only [go_sem, Nat.reduceAdd, Nat.reduceEqDiff, Nat.reduceLT, reduceIte, reduceCtorEq, Int.reduceLE, Int.reduceLT, Int.reduceEq, Int.reduceAdd, Int.reduceMul, Int.reduceSub, Nat.reduceMul, Nat.reduceSub, Nat.reducePow, Nat.reduceLeDiff, Int.reduceToNat, DD, x_app, x_ga0, x_gas, x_gan, Int.cast_ofNat_Int, eq_self, Int.zero_lt_one, Bool.not_false, Bool.not_true, beq_self_eq_true, k3, k6, hP, c1, hg0, g0]
    exact ⟨d - (i + 1), by omega, _, _, i + 1, rfl, rfl, by omega, by simp [x_look, k3], by simp only [x_look, reduceIte, Nat.reduceEqDiff], by omega, g2, by simp only [x_look, reduceIte, Nat.reduceEqDiff]; exact ASl.lastP (g := shf d f z) hg hl', fun x e => by simp [x_look] at e⟩
theorem dv_at (x : Dyadic) (k : Int) : dv (dnum x) (dexp x + k) = x * dv 1 k := by rw [← dv_two, dv_of]
theorem raw_at {x : Dyadic} (h : DB x B) (hB : B ≤ 20000) (k : Int) (hk : k.natAbs ≤ 1000000) : Sat CT false 51 [IA (decide (dnum x < 0)) (lim (dnum x).natAbs), I64 (dexp x + k)] (DI (x * dv 1 k)) := by
  have h1 := h.num
  have h2 := h.lim
  have q := raw_sat (decide (dnum x < 0)) (lim (dnum x).natAbs) (dexp x + k) (Lm_lim _) (by omega) (by rw [nv_lim]; exact pow2_lt h1.1 (by omega)) (by omega)
  rw [iv_num, dv_at] at q
  exact q
theorem db_two {k : Int} {E : Nat} (h : k.natAbs ≤ E) : DB (dv 1 k) (1 + E) := DB.raw (L := 1) (E := E) (by decide) h (Nat.le_refl _)
/-- the first i scaled -/
def sxi (k : Int) (i : Nat) (f : Po) : Po := fun s => if s < i then scl (two k) f s else f s
theorem sxi_0 (k : Int) (f : Po) : sxi k 0 f = f := by funext s; exact if_neg (by omega)
theorem sxi_at (k : Int) (i : Nat) (f : Po) : sxi k i f i = f i := if_neg (by omega)
theorem sxi_S (k : Int) (i : Nat) (f : Po) : (fun s => if s = i then scl (two k) f i else sxi k i f s) = sxi k (i + 1) f := by
  funext s
  show (if s = i then scl (two k) f i else if s < i then scl (two k) f s else f s) = if s < i + 1 then scl (two k) f s else f s
  by_cases e : s = i
  · rw [if_pos e, if_pos (by omega), e]
  · rw [if_neg e]
    by_cases e2 : s < i
    · rw [if_pos e2, if_pos (by omega)]
    · rw [if_neg e2, if_neg (by omega)]
theorem sxi_end (k : Int) (n : Nat) (f : Po) : pcl n (sxi k n f) = pcl n (scl (two k) f) := pcl_congr (fun i hi => if_pos hi)
theorem scl_at (k : Int) (f : Po) (i : Nat) : scl (two k) f i = ⟨(f i).re * dv 1 (k * i), (f i).im * dv 1 (k * i)⟩ := by
  show f i * pw (two k) i = _
  rw [pw_two, mul_two]
theorem PB.scl {f : Po} {n E : Nat} {k : Int} (h : PB f B) (hs : Sp n f) (hk : k.natAbs ≤ E) : PB (scl (two k) f) (B + (1 + E * n)) := fun i => by
  rcases Nat.lt_or_ge i n with q | q
  · rw [scl_at]
    have h1 : (k * (i : Int)).natAbs ≤ E * n := by rw [Int.natAbs_mul]; exact Nat.mul_le_mul hk (by omega)
    exact ⟨(h i).1.mul (db_two h1), (h i).2.mul (db_two h1)⟩
  · show CB (f i * _) _; rw [hs i q, Cx.zero_mul]; exact CB.zero _
theorem fd_re {z : Cx} : (CIc z).take 3 = [Bo (decide (dnum z.re < 0)), U32 (lim (dnum z.re).natAbs), I64 (dexp z.re)] := rfl
theorem pscale_h (h : RP cs n f B) (k : Int) (hk : k.natAbs ≤ 1000) (hB : B ≤ 20000) (hn : n ≤ 900) : HSat CT 28 [.sl n cs, I64 k] [] (fun a H => ASl 6 a H (pcl (dg n f) (scl (two k) f)) (dg n f)) := by
  refine hsat_of poly_Scale.ok poly_Scale.call (by simp) ?_
  have DD := poly_Scale.dr
  simp only [drP, drPx, drR, drS, bodyOf, Tryz.f28, Nat.reduceEqDiff, reduceIte, true_and, and_true] at DD
  have q0 := ptrim_h h hB
  have hle := dg_le n f
  have hpb := h.pb
  have ck : max k (-20000) = k := by omega
  have ck2 : min k 20000 = k := by omega
  generalize dg n f = d at *
  simp -implicitDefEqProofs only [go_sem, Nat.reduceAdd, Nat.reduceEqDiff, Nat.reduceLT, reduceIte, reduceCtorEq, Int.reduceLE, Int.reduceLT, Int.reduceEq, Int.reduceAdd, Int.reduceMul, Int.reduceSub, Nat.reduceMul, Nat.reduceSub, Nat.reducePow, Nat.reduceLeDiff, Int.reduceToNat, Tryz.f28, DD, x_app, x_ga0, x_gas, x_gan, Int.cast_ofNat_Int, eq_self, Int.zero_lt_one, Bool.not_false, Bool.not_true, beq_self_eq_true, ck, ck2]
  refine callK_own q0 (fun r H hr => ?_)
  rcases hr with ⟨rfl, rfl, _⟩ | ⟨ko, rfl, hg, hko, hcl⟩
  · simp -implicitDefEqProofs only [go_sem, Nat.reduceAdd, Nat.reduceEqDiff, Nat.reduceLT, reduceIte, reduceCtorEq, Int.reduceLE, Int.reduceLT, Int.reduceEq, Int.reduceAdd, Int.reduceMul, Int.reduceSub, Nat.reduceMul, Nat.reduceSub, Nat.reducePow, Nat.reduceLeDiff, Int.reduceToNat, DD, x_app, x_ga0, x_gas, x_gan, Int.cast_ofNat_Int, eq_self, Int.zero_lt_one, Bool.not_false, Bool.not_true, beq_self_eq_true]
    refine loop_of aW0_mono (fun q σ => ∃ sl, σ = ⟨sl, H⟩ ∧ look sl 5 = .v (.slice none 0 0) ∧ look sl 14 = I64 0 ∧ look sl 15 = I64 0) ?_ (n := 0) ⟨_, rfl, by simp [x_look], by simp [x_look], by simp [x_look]⟩
    rintro q _ ⟨sl, rfl, k5, k14, k15⟩
    simp -implicitDefEqProofs only [go_sem, Nat.reduceAdd, Nat.reduceEqDiff, Nat.reduceLT, reduceIte, reduceCtorEq, Int.reduceLE, Int.reduceLT, Int.reduceEq, Int.reduceAdd, Int.reduceMul, Int.reduceSub, Nat.reduceMul, Nat.reduceSub, Nat.reducePow, Nat.reduceLeDiff, Int.reduceToNat, DD, x_app, x_ga0, x_gas, x_gan, Int.cast_ofNat_Int, eq_self, Int.zero_lt_one, Bool.not_false, Bool.not_true, beq_self_eq_true, k5, k14, k15]
    rw [pcl0]; exact ASl.nil _ _
  · simp -implicitDefEqProofs only [go_sem, Nat.reduceAdd, Nat.reduceEqDiff, Nat.reduceLT, reduceIte, reduceCtorEq, Int.reduceLE, Int.reduceLT, Int.reduceEq, Int.reduceAdd, Int.reduceMul, Int.reduceSub, Nat.reduceMul, Nat.reduceSub, Nat.reducePow, Nat.reduceLeDiff, Int.reduceToNat, DD, x_app, x_ga0, x_gas, x_gan, Int.cast_ofNat_Int, eq_self, Int.zero_lt_one, Bool.not_false, Bool.not_true, beq_self_eq_true]
    refine loop_of aW0_mono (fun q σ => ∃ sl H i, σ = ⟨sl, H⟩ ∧ q = d - i ∧ i ≤ d ∧ look sl 1 = I64 k ∧ look sl 5 = .own 6 ko 0 d ∧ look sl 13 = .own 6 ko 0 d ∧ look sl 14 = I64 (d : Nat) ∧ look sl 15 = I64 (i : Nat) ∧ ko < H.length ∧ H.getD ko ⟨[], false, false⟩ = ⟨pcl d (sxi k i f), true, true⟩) ?_ (n := d)
      ⟨_, _, 0, rfl, rfl, Nat.zero_le _, by simp [x_look], by simp [x_look], by simp [x_look], by simp [x_look], by simp [x_look], hko, by rw [sxi_0]; exact hg⟩
    clear hg hko
    rintro q _ ⟨sl, H, i, rfl, rfl, hi, k1, k5, k13, k14, k15, hko, hg⟩
    by_cases hid : i = d
    · subst hid
      simp -implicitDefEqProofs only [go_sem, Nat.reduceAdd, Nat.reduceEqDiff, Nat.reduceLT, reduceIte, reduceCtorEq, Int.reduceLE, Int.reduceLT, Int.reduceEq, Int.reduceAdd, Int.reduceMul, Int.reduceSub, Nat.reduceMul, Nat.reduceSub, Nat.reducePow, Nat.reduceLeDiff, Int.reduceToNat, DD, x_app, x_ga0, x_gas, x_gan, Int.cast_ofNat_Int, eq_self, Int.zero_lt_one, Bool.not_false, Bool.not_true, beq_self_eq_true, k1, k5, k13, k14, k15, Int.lt_irrefl]
      rw [sxi_end] at hg
      exact .inr ⟨ko, rfl, hg, hko, pcl_len _ _⟩
    · have c1 : (i : Int) < (d : Int) := by omega
      have ci : IntKind.i64.wrap ((i : Int) + 1) = ((i + 1 : Nat) : Int) := by rw [wrap_id (by omega)]; omega
      have c2 : (0 : Int) ≤ (i : Int) := by omega
      have c4 : i * 6 < d * 6 := by omega
      have c5 : i * 6 + 6 ≤ d * 6 := by omega
      have hL := pcl_len d (sxi k i f)
      have hc := pcl_el (sxi k i f) (show i < d by omega)
      rw [sxi_at] at hc
      have g0 : ∀ y, (H ++ [y]).getD ko ⟨[], false, false⟩ = ⟨pcl d (sxi k i f), true, true⟩ := fun y => by rw [getD_hp hko]; exact hg
      have hki : (k * (i : Int)).natAbs ≤ 1000 * 900 := by rw [Int.natAbs_mul]; exact Nat.mul_le_mul hk (by omega)
      have w1 : IntKind.i64.wrap (k * (i : Int)) = k * (i : Int) := wrap_id (by omega)
      have b1 := (hpb i).1.num
      have b2 := (hpb i).2.num
      have w2 : IntKind.i64.wrap (dexp (f i).re + k * (i : Int)) = dexp (f i).re + k * (i : Int) := wrap_id (by omega)
      have w3 : IntKind.i64.wrap (dexp (f i).im + k * (i : Int)) = dexp (f i).im + k * (i : Int) := wrap_id (by omega)
      have q1 := raw_at (hpb i).1 hB (k * (i : Int)) (by omega)
      have q2 := raw_at (hpb i).2 hB (k * (i : Int)) (by omega)
      simp -implicitDefEqProofs only [go_sem, Nat.reduceAdd, Nat.reduceEqDiff, Nat.reduceLT, reduceIte, reduceCtorEq, Int.reduceLE, Int.reduceLT, Int.reduceEq, Int.reduceAdd, Int.reduceMul, Int.reduceSub, Nat.reduceMul, Nat.reduceSub, Nat.reducePow, Nat.reduceLeDiff, Int.reduceToNat, DD, x_app, x_ga0, x_gas, x_gan, Int.cast_ofNat_Int, eq_self, Int.zero_lt_one, Bool.not_false, Bool.not_true, beq_self_eq_true, k1, k5, k13, k14, k15, ci, c1, c2, c4, c5, hL, hc, hg, g0, w1, w2, w3, CIc]
      refine callK_of false dyad_Raw.call (q1) rfl rfl (by simp [ownOK, own1, hd, fzH, fzArgs, fzCells, fz, IA, WI, DI, DA, CI, U32]) (by simp [U32, isD_u32, isD_v, isD_nil, isD_agg, IA, WI, DI, DA, CI]) ?_
      simp -implicitDefEqProofs only [go_sem, Nat.reduceAdd, Nat.reduceEqDiff, Nat.reduceLT, reduceIte, reduceCtorEq, Int.reduceLE, Int.reduceLT, Int.reduceEq, Int.reduceAdd, Int.reduceMul, Int.reduceSub, Nat.reduceMul, Nat.reduceSub, Nat.reducePow, Nat.reduceLeDiff, Int.reduceToNat, DD, x_app, x_ga0, x_gas, x_gan, Int.cast_ofNat_Int, eq_self, Int.zero_lt_one, Bool.not_false, Bool.not_true, beq_self_eq_true, k1, k5, k13, k14, k15, ci, c1, c2, c4, c5, hL, hc, hg, g0, w1, w2, w3, CIc, DI, DA]
      refine callK_of false dyad_Raw.call (q2) rfl rfl (by simp [ownOK, own1, hd, fzH, fzArgs, fzCells, fz, IA, WI, DI, DA, CI, U32]) (by simp [U32, isD_u32, isD_v, isD_nil, isD_agg, IA, WI, DI, DA, CI]) ?_
      simp -implicitDefEqProofs only [go_sem, Nat.reduceAdd, Nat.reduceEqDiff, Nat.reduceLT, reduceIte, reduceCtorEq, Int.reduceLE, Int.reduceLT, Int.reduceEq, Int.reduceAdd, Int.reduceMul, Int.reduceSub, Nat.reduceMul, Nat.reduceSub, Nat.reducePow, Nat.reduceLeDiff, Int.reduceToNat, DD, x_app, x_ga0, x_gas, x_gan, Int.cast_ofNat_Int, eq_self, Int.zero_lt_one, Bool.not_false, Bool.not_true, beq_self_eq_true, k1, k5, k13, k14, k15, ci, c1, c2, c4, c5, hL, hc, hg, g0, w1, w2, w3, CIc, DI, DA]
      refine ⟨d - (i + 1), by omega, _, _, i + 1, rfl, rfl, by omega, by simp [x_look, k1], by simp [x_look, k5], by simp [x_look, k13], by simp [x_look, k14], by simp [x_look], by simp; omega, ?_⟩
      rw [getD_set (by simp; omega), if_pos rfl, ← sxi_S, ← pcl_set (show i < d by omega), scl_at]; rfl
theorem pscale_s (h : RP cs n f B) (k : Int) (hk : k.natAbs ≤ 1000) (hB : B ≤ 20000) (hn : n ≤ 900) : Sat CT false 28 [.sl n cs, I64 k] (PA (dg n f) (scl (two k) f)) := sat_of_hsat (pscale_h h k hk hB hn) (fun a H' q => ret_ASl q)
theorem psame_b (h : RP cs n f B) (h' : RP ds m g C) (hB : B ≤ 19999) (hC : C ≤ 19999) (hcs : ∀ c ∈ cs, IsD c) (hds : ∀ c ∈ ds, IsD c) (b : Bool) (hb : b = true ↔ f = g) : Sat CT false 14 [.sl n cs, .sl m ds] (Bo b) := by
  refine sat_of poly_Same.ok (by simp) ?_
  have DD := poly_Same.dr
  simp only [drP, drPx, drR, drS, bodyOf, Tryz.f14, Nat.reduceEqDiff, reduceIte, true_and, and_true] at DD
  have q := psub_s h h' hB hC hcs hds
  have hs := Sp.psub h.sp h'.sp
  have e : b = decide (((dg (max n m) (psub f g) : Nat) : Int) = 0) := by
    cases b with
    | true => exact (decide_eq_true (by rw [hb.1 rfl, dg_psub_self h'.sp]; rfl)).symm
    | false => exact (decide_eq_false (fun e => by have := hb.2 (psub_null hs (by omega)); cases this)).symm
  rw [e]
  have hP : PA (dg (max n m) (psub f g)) (psub f g) = .sl (dg (max n m) (psub f g)) (pcl (dg (max n m) (psub f g)) (psub f g)) := rfl
  simp -implicitDefEqProofs only [go_sem, Nat.reduceAdd, Nat.reduceEqDiff, Nat.reduceLT, reduceIte, reduceCtorEq, Int.reduceLE, Int.reduceLT, Int.reduceEq, Int.reduceAdd, Int.reduceMul, Int.reduceSub, Nat.reduceMul, Nat.reduceSub, Nat.reducePow, Nat.reduceLeDiff, Int.reduceToNat, Tryz.f14, DD, x_app, x_ga0, x_gas, x_gan, Int.cast_ofNat_Int, eq_self, Int.zero_lt_one, Bool.not_false, Bool.not_true, beq_self_eq_true]
  refine callK_pl poly_Sub.call (q) (pl2 (pld_sl hcs) (pld_sl hds)) ?_
  simp -implicitDefEqProofs only [go_sem, Nat.reduceAdd, Nat.reduceEqDiff, Nat.reduceLT, reduceIte, reduceCtorEq, Int.reduceLE, Int.reduceLT, Int.reduceEq, Int.reduceAdd, Int.reduceMul, Int.reduceSub, Nat.reduceMul, Nat.reduceSub, Nat.reducePow, Nat.reduceLeDiff, Int.reduceToNat, DD, x_app, x_ga0, x_gas, x_gan, Int.cast_ofNat_Int, eq_self, Int.zero_lt_one, Bool.not_false, Bool.not_true, beq_self_eq_true, hP]
theorem psame_y (h : RP cs n f B) (h' : RP ds m g C) (hB : B ≤ 19999) (hC : C ≤ 19999) (hcs : ∀ c ∈ cs, IsD c) (hds : ∀ c ∈ ds, IsD c) (e : f = g) : Sat CT false 14 [.sl n cs, .sl m ds] (Bo true) := psame_b h h' hB hC hcs hds true ⟨fun _ => e, fun _ => rfl⟩
end Go.Ab
