/- Contracts of this seat's functions (of each call: what it answers), walked over the abstract machine, and the laws of numbers that they want. Conditions: those that each theorem states. -/
import Derived.Test.YtikhbokeaikcpaaDoorW3
import Derived.Test.YtikhbokeaikcpaaDoorPP
set_option linter.unusedVariables false
set_option maxRecDepth 20000
set_option linter.unusedSimpArgs false
namespace Go.Ab
open Go.Proofs

/-- less than 2 to the power of k -/
def Lt2 (N k : Nat) : Prop := N < 2 ^ k
/-- a sign, limbs, an exponent -/
def DA (n : Bool) (l : List Nat) (e : Int) : AV := .agg [Bo n, U32 l, I64 e]
/-- a number as it must be -/
def DI (d : Dyadic) : AV := DA (decide (dnum d < 0)) (lim (dnum d).natAbs) (dexp d)
theorem DI_0 : DI 0 = DA false [] 0 := by
  show DA (decide ((0 : Int) < 0)) (lim (0 : Int).natAbs) 0 = _
  rw [show (0 : Int).natAbs = 0 from rfl, lim_zero]; rfl
theorem DI_raw {n : Bool} {l : List Nat} {e : Int} (h : nv l ≠ 0) : DI (dv (iv n l) e) = DA n (lim (nv l / 2 ^ tz (nv l))) (e + (tz (nv l) : Nat)) := by
  obtain ⟨t, m, hN⟩ := tz_ex h
  obtain ⟨o, ho, ho1, ho2, ho3⟩ : ∃ o : Int, iv n l = o * 2 ^ t ∧ o % 2 = 1 ∧ decide (o < 0) = n ∧ o.natAbs = 2 * m + 1 := by
    unfold iv
    cases n
    · refine ⟨((2 * m + 1 : Nat) : Int), ?_, by omega, by simp; omega, by omega⟩
      rw [if_neg (by simp), hN, Int.natCast_mul, Int.mul_comm, Int.natCast_pow]; rfl
    · refine ⟨-((2 * m + 1 : Nat) : Int), ?_, by omega, by simp; omega, by omega⟩
      rw [if_pos rfl, hN, Int.natCast_mul, Int.mul_comm, Int.natCast_pow, Int.neg_mul]; rfl
  unfold DI
  rw [ho, dv_shift, dnum_odd ho1, dexp_odd ho1, ho2, ho3, hN, tz_eq, Nat.mul_div_cancel_left _ (Nat.two_pow_pos t)]
/-- reads as a number; nothing of it is greater than B -/
def RD (a : AV) (d : Dyadic) (B : Nat) : Prop := ∃ n l e, a = DA n l e ∧ Lm l ∧ dv (iv n l) e = d ∧ Lt2 (nv l) (2 * B) ∧ l.length ≤ B ∧ e.natAbs ≤ B ∧ DB d B
theorem iv_num (d : Dyadic) : iv (decide (dnum d < 0)) (lim (dnum d).natAbs) = dnum d := iv_W (dnum d)
theorem DB.lim {d : Dyadic} {B : Nat} (h : DB d B) : (lim (dnum d).natAbs).length ≤ B := by
  have h1 := h.num.1
  refine lim_length_le (Nat.lt_of_lt_of_le h1 ?_)
  rw [show (4294967296 : Nat) = 2 ^ 32 from rfl, ← Nat.pow_mul]
  exact Nat.pow_le_pow_right (by decide) (by omega)
theorem RD_D {d : Dyadic} {B : Nat} (h : DB d B) : RD (DI d) d B := ⟨_, _, _, rfl, Lm_lim _, by rw [iv_num, dv_of], by rw [nv_lim]; exact h.num.1, h.lim, h.num.2, h⟩
theorem RD.db {a : AV} {d : Dyadic} {B : Nat} (h : RD a d B) : DB d B := by obtain ⟨_, _, _, _, _, _, _, _, _, h⟩ := h; exact h
theorem RD.mono {a : AV} {d : Dyadic} {B C : Nat} (h : RD a d B) (hC : B ≤ C) : RD a d C := by
  obtain ⟨n, l, e, h1, h2, h3, h0, h4, h5, h6⟩ := h
  exact ⟨n, l, e, h1, h2, h3, Nat.lt_of_lt_of_le h0 (Nat.pow_le_pow_right (by decide) (by omega)), by omega, by omega, h6.mono hC⟩
theorem x_spl00 {l : List AV} : spl l 0 [] = l := by simp [spl]
theorem x_spl0c {a b : AV} {l m : List AV} : spl (a :: l) 0 (b :: m) = b :: spl l 0 m := by simp [spl, Nat.add_comm]
attribute [go_sem] x_spl00 x_spl0c
theorem WI_nz {n : Bool} {l : List Nat} (h : nv l ≠ 0) : WI (iv n l) = IA n (lim (nv l)) := by
  unfold WI
  rw [abs_iv]
  congr 1
  unfold iv; cases n
  · rw [if_neg (by simp)]; exact decide_eq_false (by omega)
  · rw [if_pos rfl]; exact decide_eq_true (by omega)
theorem WI_z {n : Bool} {l : List Nat} (h : nv l = 0) : WI (iv n l) = IA false [] := by
  have e : iv n l = 0 := by unfold iv; rw [h]; cases n <;> rfl
  rw [e]
  unfold WI
  rw [show (0 : Int).natAbs = 0 from rfl, lim_zero]; rfl
theorem tz_small {N k : Nat} (h0 : N ≠ 0) (h : Lt2 N k) : tz N < k := tz_lt h0 h
theorem lim_nz {N : Nat} (h : N ≠ 0) : ¬ (((lim N).length : Nat) : Int) = 0 := fun e => h (by
  have := nv_nil_of (l := lim N) (by omega)
  rwa [nv_lim] at this)
theorem wrap_id {x : Int} (h : x.natAbs ≤ 2000000000) : IntKind.i64.wrap x = x := wrap_i64 (by omega) (by omega)

/-! contracts of dyadic numbers -/
theorem raw_sat (n : Bool) (l : List Nat) (e : Int) (hl : Lm l) (hla : l.length < 1099511000) (hk : Lt2 (nv l) 100000) (he : e.natAbs ≤ 1000000000) : Sat CT false 72 [IA n l, I64 e] (DI (dv (iv n l) e)) := by
  refine sat_of dyad_Raw.ok (by simp) ?_
  have DD := dyad_Raw.dr
  simp only [drP, drPx, drPt, drR, drS, drT, bodyOf, Tryd.f72, Nat.reduceEqDiff, reduceIte, true_and, and_true] at DD
  have q1 := norm_sat n l hl (by omega)
  by_cases h0 : nv l = 0
  · rw [show iv n l = 0 by unfold iv; rw [h0]; cases n <;> rfl, dv_zero, DI_0]
    rw [WI_z h0] at q1
    simp -implicitDefEqProofs only [go_sem, simprocAttr, -Int.reducePow, Tryd.f72, DD, beq_self_eq_true, Bool.not_false, Bool.not_true, WI, IA, DI, DA]
    refine callK_of false whole_Norm.call (q1) rfl rfl (by simp [ownOK, own1, hd, fzH, fzArgs, fzCells, fz, IA, WI, DI, DA, U32]) (by simp [U32, isD_u32, isD_v, isD_nil, isD_agg, IA, WI, DI, DA]) ?_
    simp -implicitDefEqProofs only [go_sem, simprocAttr, -Int.reducePow, DD, x_app, x_ga0, x_gas, x_gan, Int.cast_ofNat_Int, eq_self, Int.zero_lt_one, Bool.not_false, Bool.not_true, beq_self_eq_true, WI, IA, DI, DA]
    rfl
  · rw [DI_raw h0]
    rw [WI_nz h0] at q1
    have ht := tz_small h0 hk
    have hll := lim_nv_len (L := 1099511000) hl (by omega) (Nat.le_refl (nv l))
    have q2 := low_sat (lim (nv l)) (Lm_lim _) (by omega)
    rw [nv_lim] at q2
    have q3 := down_sat (lim (nv l)) (tz (nv l)) (Lm_lim _) (by omega) (by omega)
    rw [nv_lim] at q3
    have c1 := lim_nz h0
    have c2 : IntKind.i64.wrap (e + ((tz (nv l) : Nat) : Int)) = e + ((tz (nv l) : Nat) : Int) := wrap_id (by omega)
    simp -implicitDefEqProofs only [go_sem, simprocAttr, -Int.reducePow, Tryd.f72, DD, beq_self_eq_true, Bool.not_false, Bool.not_true, WI, IA, DI, DA, c1, c2]
    refine callK_of false whole_Norm.call (q1) rfl rfl (by simp [ownOK, own1, hd, fzH, fzArgs, fzCells, fz, IA, WI, DI, DA, U32]) (by simp [U32, isD_u32, isD_v, isD_nil, isD_agg, IA, WI, DI, DA]) ?_
    simp -implicitDefEqProofs only [go_sem, simprocAttr, -Int.reducePow, DD, x_app, x_ga0, x_gas, x_gan, Int.cast_ofNat_Int, eq_self, Int.zero_lt_one, Bool.not_false, Bool.not_true, beq_self_eq_true, WI, IA, DI, DA, c1, c2]
    refine callK_of false nat_Low.call (q2) rfl rfl (by simp [ownOK, own1, hd, fzH, fzArgs, fzCells, fz, IA, WI, DI, DA, U32]) (by simp [U32, isD_u32, isD_v, isD_nil, isD_agg, IA, WI, DI, DA]) ?_
    simp -implicitDefEqProofs only [go_sem, simprocAttr, -Int.reducePow, DD, x_app, x_ga0, x_gas, x_gan, Int.cast_ofNat_Int, eq_self, Int.zero_lt_one, Bool.not_false, Bool.not_true, beq_self_eq_true, WI, IA, DI, DA, c1, c2]
    refine callK_of false nat_Downwards.call (q3) rfl rfl (by simp [ownOK, own1, hd, fzH, fzArgs, fzCells, fz, IA, WI, DI, DA, U32]) (by simp [U32, isD_u32, isD_v, isD_nil, isD_agg, IA, WI, DI, DA]) ?_
    simp -implicitDefEqProofs only [go_sem, simprocAttr, -Int.reducePow, DD, x_app, x_ga0, x_gas, x_gan, Int.cast_ofNat_Int, eq_self, Int.zero_lt_one, Bool.not_false, Bool.not_true, beq_self_eq_true, WI, IA, DI, DA, c1, c2]
end Go.Ab
