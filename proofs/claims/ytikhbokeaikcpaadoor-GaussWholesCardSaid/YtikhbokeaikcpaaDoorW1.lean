/- Contracts of this seat's functions (of each call: what it answers), walked over the abstract machine, and the laws of numbers that they want. Conditions: those that each theorem states. -/
import Derived.Test.YtikhbokeaikcpaaDoorN19
set_option linter.unusedVariables false
set_option maxRecDepth 20000
set_option linter.unusedSimpArgs false
namespace Go.Ab
open Go.Proofs

theorem x_full {cells vc : List AV} (h : vc.length = cells.length) : spl cells 0 vc = vc := by simp [spl, h]
theorem x_spl0 {a b : AV} {l : List AV} : spl (a :: l) 0 [b] = b :: l := by simp [spl]
theorem x_splS {a : AV} {l vc : List AV} {n : Nat} : spl (a :: l) (n + 1) vc = a :: spl l n vc := by simp [spl, Nat.add_right_comm]
theorem x_leafB {b : Bool} : leafA (.v (.bool b)) = true := rfl
theorem x_leafI {k : IntKind} {n : Int} : leafA (.v (.int k n)) = true := rfl
theorem x_leafN {a : Option Addr} {n c : Nat} : leafA (.v (.slice a n c)) = true := rfl
theorem x_snap1agg {H : Heap} {cs : List AV} : snap1 H (.agg cs) = .agg cs := rfl
theorem x_leafS {n : Nat} {cs : List AV} : leafA (.sl n cs) = true := rfl
attribute [go_sem] isD_agg x_full x_spl0 x_splS x_leafB x_leafI x_leafS x_leafN x_snap1agg Bool.true_and List.all_cons List.all_nil Bool.and_self Bool.and_true List.take_succ_cons

/-- a sign and limbs -/
def IA (n : Bool) (l : List Nat) : AV := .agg [Bo n, U32 l]
def iv (n : Bool) (l : List Nat) : Int := if n then -(nv l : Int) else (nv l : Int)
/-- a number as it must be -/
def WI (z : Int) : AV := IA (decide (z < 0)) (lim z.natAbs)
theorem iv_W (z : Int) : iv (decide (z < 0)) (lim z.natAbs) = z := by
  unfold iv
  rw [nv_lim]
  by_cases h : z < 0
  · rw [decide_eq_true h, if_pos rfl]; omega
  · rw [decide_eq_false h, if_neg (by simp)]; omega
theorem abs_iv (n : Bool) (l : List Nat) : (iv n l).natAbs = nv l := by
  unfold iv; cases n <;> simp
theorem WI_f {l : List Nat} (h : Lm l) : WI (iv false l) = .agg [Bo false, .sl (cutL l).length (u32s (cutL l))] := by
  unfold WI IA
  rw [abs_iv, cutL_lim h, decide_eq_false (by unfold iv; simp)]; rfl
theorem WI_t0 {l : List Nat} (h : Lm l) (h0 : nv l = 0) : WI (iv true l) = .agg [Bo false, .sl (cutL l).length (u32s (cutL l))] := by
  unfold WI IA
  rw [abs_iv, cutL_lim h, decide_eq_false (by unfold iv; simp [h0])]; rfl
theorem WI_t1 {l : List Nat} (h : Lm l) (h0 : nv l ≠ 0) : WI (iv true l) = .agg [Bo true, .sl (cutL l).length (u32s (cutL l))] := by
  unfold WI IA
  rw [abs_iv, cutL_lim h, decide_eq_true (by unfold iv; simp; omega)]; rfl
theorem cut_pos {l : List Nat} (h0 : nv l ≠ 0) : (0 : Int) < ((cutL l).length : Int) := by
  have : (cutL l).length ≠ 0 := fun e => h0 (by rw [← nv_cutL l]; exact nv_nil_of e)
  omega
theorem cut_none {l : List Nat} (hl : Lm l) (h0 : nv l = 0) : (cutL l).length = 0 := by rw [cutL_lim hl, h0, lim_zero]; rfl

theorem cell_ne {α : Type} {a b : α} (h : ¬ a = b) [BEq α] [LawfulBEq α] : (a == b) = false := by simpa using h
/-- reads as a number of at most so many limbs -/
def RI (a : AV) (z : Int) (L : Nat) : Prop := ∃ n l, a = IA n l ∧ Lm l ∧ iv n l = z ∧ l.length ≤ L
theorem RI_W {z : Int} {L : Nat} (h : (lim z.natAbs).length ≤ L) : RI (WI z) z L := ⟨_, _, rfl, Lm_lim _, iv_W z, h⟩
/-- how many limbs -/
def Lz (z : Int) : Nat := (lim z.natAbs).length
theorem iv_lim (n : Bool) (x : Nat) : iv n (lim x) = if n then -(x : Int) else (x : Int) := by unfold iv; rw [nv_lim]
theorem iv_add {n : Bool} {l m : List Nat} : iv n (lim (nv l + nv m)) = iv n l + iv n m := by rw [iv_lim]; unfold iv; cases n <;> simp <;> omega
theorem iv_sub1 {n m : Bool} {l k : List Nat} (h : ¬ n = m) (hle : nv k ≤ nv l) : iv n (lim (nv l - nv k)) = iv n l + iv m k := by
  rw [iv_lim]; unfold iv; cases n <;> cases m <;> simp at h ⊢ <;> omega
theorem iv_sub2 {n m : Bool} {l k : List Nat} (h : ¬ n = m) (hle : nv l ≤ nv k) : iv m (lim (nv k - nv l)) = iv n l + iv m k := by
  rw [iv_lim]; unfold iv; cases n <;> cases m <;> simp at h ⊢ <;> omega
theorem iv_not (n : Bool) (l : List Nat) : iv (!n) l = - iv n l := by unfold iv; cases n <;> simp
theorem iv_mul (n m : Bool) (l k : List Nat) : iv (!(n == m)) (lim (nv l * nv k)) = iv n l * iv m k := by
  rw [iv_lim]; unfold iv; cases n <;> cases m <;> simp [Int.neg_mul, Int.mul_neg]
/-! contracts of whole numbers -/
theorem with_sat (n : Bool) (l : List Nat) (hl : Lm l) (hla : l.length < 1099511627776) : Sat CT false 85 [Bo n, U32 l] (WI (iv n l)) := by
  refine sat_of whole_with.ok (by simp) ?_
  have DD := whole_with.dr
  simp only [drP, drPx, drPt, drR, drS, drT, bodyOf, Tryd.f85, Nat.reduceEqDiff, reduceIte, true_and, and_true] at DD
  cases n with
  | false =>
    rw [WI_f hl]
    simp -implicitDefEqProofs only [go_sem, Nat.reduceAdd, Nat.reduceEqDiff, Nat.reduceLT, reduceIte, reduceCtorEq, Int.reduceLE, Int.reduceLT, Int.reduceEq, Int.reduceAdd, Int.reduceMul, Int.reduceSub, Nat.reduceMul, Nat.reduceSub, Nat.reducePow, Nat.reduceLeDiff, Int.reduceToNat, Tryd.f85, DD, beq_self_eq_true, Bool.not_false, Bool.not_true, WI, IA]
    refine callK_of false nat_Trim.call (trim_sat l hla) rfl rfl (by simp [ownOK, own1, hd, fzH, fzArgs, fzCells, fz, IA, WI, U32]) (by simp [U32, isD_u32, isD_v, isD_nil, isD_agg, IA, WI]) ?_
    simp -implicitDefEqProofs only [go_sem, Nat.reduceAdd, Nat.reduceEqDiff, Nat.reduceLT, reduceIte, reduceCtorEq, Int.reduceLE, Int.reduceLT, Int.reduceEq, Int.reduceAdd, Int.reduceMul, Int.reduceSub, Nat.reduceMul, Nat.reduceSub, Nat.reducePow, Nat.reduceLeDiff, Int.reduceToNat, DD, x_app, x_ga0, x_gas, x_gan, Int.cast_ofNat_Int, eq_self, Int.zero_lt_one, Bool.not_false, Bool.not_true, beq_self_eq_true, WI, IA]
  | true =>
    by_cases h0 : nv l = 0
    · have c : ¬ ((0 : Int) < ((cutL l).length : Int)) := by have := cut_none hl h0; omega
      rw [WI_t0 hl h0]
      simp -implicitDefEqProofs only [go_sem, Nat.reduceAdd, Nat.reduceEqDiff, Nat.reduceLT, reduceIte, reduceCtorEq, Int.reduceLE, Int.reduceLT, Int.reduceEq, Int.reduceAdd, Int.reduceMul, Int.reduceSub, Nat.reduceMul, Nat.reduceSub, Nat.reducePow, Nat.reduceLeDiff, Int.reduceToNat, Tryd.f85, DD, beq_self_eq_true, Bool.not_false, Bool.not_true, WI, IA, c]
      refine callK_of false nat_Trim.call (trim_sat l hla) rfl rfl (by simp [ownOK, own1, hd, fzH, fzArgs, fzCells, fz, IA, WI, U32]) (by simp [U32, isD_u32, isD_v, isD_nil, isD_agg, IA, WI]) ?_
      simp -implicitDefEqProofs only [go_sem, Nat.reduceAdd, Nat.reduceEqDiff, Nat.reduceLT, reduceIte, reduceCtorEq, Int.reduceLE, Int.reduceLT, Int.reduceEq, Int.reduceAdd, Int.reduceMul, Int.reduceSub, Nat.reduceMul, Nat.reduceSub, Nat.reducePow, Nat.reduceLeDiff, Int.reduceToNat, DD, x_app, x_ga0, x_gas, x_gan, Int.cast_ofNat_Int, eq_self, Int.zero_lt_one, Bool.not_false, Bool.not_true, beq_self_eq_true, WI, IA, c]
    · have c := cut_pos h0
      rw [WI_t1 hl h0]
      simp -implicitDefEqProofs only [go_sem, Nat.reduceAdd, Nat.reduceEqDiff, Nat.reduceLT, reduceIte, reduceCtorEq, Int.reduceLE, Int.reduceLT, Int.reduceEq, Int.reduceAdd, Int.reduceMul, Int.reduceSub, Nat.reduceMul, Nat.reduceSub, Nat.reducePow, Nat.reduceLeDiff, Int.reduceToNat, Tryd.f85, DD, beq_self_eq_true, Bool.not_false, Bool.not_true, WI, IA, c]
      refine callK_of false nat_Trim.call (trim_sat l hla) rfl rfl (by simp [ownOK, own1, hd, fzH, fzArgs, fzCells, fz, IA, WI, U32]) (by simp [U32, isD_u32, isD_v, isD_nil, isD_agg, IA, WI]) ?_
      simp -implicitDefEqProofs only [go_sem, Nat.reduceAdd, Nat.reduceEqDiff, Nat.reduceLT, reduceIte, reduceCtorEq, Int.reduceLE, Int.reduceLT, Int.reduceEq, Int.reduceAdd, Int.reduceMul, Int.reduceSub, Nat.reduceMul, Nat.reduceSub, Nat.reducePow, Nat.reduceLeDiff, Int.reduceToNat, DD, x_app, x_ga0, x_gas, x_gan, Int.cast_ofNat_Int, eq_self, Int.zero_lt_one, Bool.not_false, Bool.not_true, beq_self_eq_true, WI, IA, c]
theorem rnorm_sat (n : Bool) (l : List Nat) (hl : Lm l) (hla : l.length < 1099511627776) : Sat CT false 65 [IA n l] (WI (iv n l)) := by
  refine sat_of annulusref1_Norm.ok (by simp) ?_
  have DD := annulusref1_Norm.dr
  simp only [drP, drPx, drPt, drR, drS, drT, bodyOf, Tryd.f65, Nat.reduceEqDiff, reduceIte, true_and, and_true] at DD
  cases n with
  | false =>
    rw [WI_f hl]
    simp -implicitDefEqProofs only [go_sem, Nat.reduceAdd, Nat.reduceEqDiff, Nat.reduceLT, reduceIte, reduceCtorEq, Int.reduceLE, Int.reduceLT, Int.reduceEq, Int.reduceAdd, Int.reduceMul, Int.reduceSub, Nat.reduceMul, Nat.reduceSub, Nat.reducePow, Nat.reduceLeDiff, Int.reduceToNat, Tryd.f65, DD, beq_self_eq_true, Bool.not_false, Bool.not_true, WI, IA]
    refine callK_of false annulusref1_Trim.call (rtrim_sat l (by omega)) rfl rfl (by simp [ownOK, own1, hd, fzH, fzArgs, fzCells, fz, IA, WI, U32]) (by simp [U32, isD_u32, isD_v, isD_nil, isD_agg, IA, WI]) ?_
    simp -implicitDefEqProofs only [go_sem, Nat.reduceAdd, Nat.reduceEqDiff, Nat.reduceLT, reduceIte, reduceCtorEq, Int.reduceLE, Int.reduceLT, Int.reduceEq, Int.reduceAdd, Int.reduceMul, Int.reduceSub, Nat.reduceMul, Nat.reduceSub, Nat.reducePow, Nat.reduceLeDiff, Int.reduceToNat, DD, x_app, x_ga0, x_gas, x_gan, Int.cast_ofNat_Int, eq_self, Int.zero_lt_one, Bool.not_false, Bool.not_true, beq_self_eq_true, WI, IA]
  | true =>
    by_cases h0 : nv l = 0
    · have c : ¬ ((0 : Int) < ((cutL l).length : Int)) := by have := cut_none hl h0; omega
      rw [WI_t0 hl h0]
      simp -implicitDefEqProofs only [go_sem, Nat.reduceAdd, Nat.reduceEqDiff, Nat.reduceLT, reduceIte, reduceCtorEq, Int.reduceLE, Int.reduceLT, Int.reduceEq, Int.reduceAdd, Int.reduceMul, Int.reduceSub, Nat.reduceMul, Nat.reduceSub, Nat.reducePow, Nat.reduceLeDiff, Int.reduceToNat, Tryd.f65, DD, beq_self_eq_true, Bool.not_false, Bool.not_true, WI, IA, c]
      refine callK_of false annulusref1_Trim.call (rtrim_sat l (by omega)) rfl rfl (by simp [ownOK, own1, hd, fzH, fzArgs, fzCells, fz, IA, WI, U32]) (by simp [U32, isD_u32, isD_v, isD_nil, isD_agg, IA, WI]) ?_
      simp -implicitDefEqProofs only [go_sem, Nat.reduceAdd, Nat.reduceEqDiff, Nat.reduceLT, reduceIte, reduceCtorEq, Int.reduceLE, Int.reduceLT, Int.reduceEq, Int.reduceAdd, Int.reduceMul, Int.reduceSub, Nat.reduceMul, Nat.reduceSub, Nat.reducePow, Nat.reduceLeDiff, Int.reduceToNat, DD, x_app, x_ga0, x_gas, x_gan, Int.cast_ofNat_Int, eq_self, Int.zero_lt_one, Bool.not_false, Bool.not_true, beq_self_eq_true, WI, IA, c]
    · have c := cut_pos h0
      rw [WI_t1 hl h0]
      simp -implicitDefEqProofs only [go_sem, Nat.reduceAdd, Nat.reduceEqDiff, Nat.reduceLT, reduceIte, reduceCtorEq, Int.reduceLE, Int.reduceLT, Int.reduceEq, Int.reduceAdd, Int.reduceMul, Int.reduceSub, Nat.reduceMul, Nat.reduceSub, Nat.reducePow, Nat.reduceLeDiff, Int.reduceToNat, Tryd.f65, DD, beq_self_eq_true, Bool.not_false, Bool.not_true, WI, IA, c]
      refine callK_of false annulusref1_Trim.call (rtrim_sat l (by omega)) rfl rfl (by simp [ownOK, own1, hd, fzH, fzArgs, fzCells, fz, IA, WI, U32]) (by simp [U32, isD_u32, isD_v, isD_nil, isD_agg, IA, WI]) ?_
      simp -implicitDefEqProofs only [go_sem, Nat.reduceAdd, Nat.reduceEqDiff, Nat.reduceLT, reduceIte, reduceCtorEq, Int.reduceLE, Int.reduceLT, Int.reduceEq, Int.reduceAdd, Int.reduceMul, Int.reduceSub, Nat.reduceMul, Nat.reduceSub, Nat.reducePow, Nat.reduceLeDiff, Int.reduceToNat, DD, x_app, x_ga0, x_gas, x_gan, Int.cast_ofNat_Int, eq_self, Int.zero_lt_one, Bool.not_false, Bool.not_true, beq_self_eq_true, WI, IA, c]
theorem norm_sat (n : Bool) (l : List Nat) (hl : Lm l) (hla : l.length < 1099511627776) : Sat CT false 93 [IA n l] (WI (iv n l)) := by
  refine sat_of whole_Norm.ok (by simp) ?_
  have DD := whole_Norm.dr
  simp only [drP, drPx, drPt, drR, drS, drT, bodyOf, Tryd.f93, Nat.reduceEqDiff, reduceIte, true_and, and_true] at DD
  simp -implicitDefEqProofs only [go_sem, Nat.reduceAdd, Nat.reduceEqDiff, Nat.reduceLT, reduceIte, reduceCtorEq, Int.reduceLE, Int.reduceLT, Int.reduceEq, Int.reduceAdd, Int.reduceMul, Int.reduceSub, Nat.reduceMul, Nat.reduceSub, Nat.reducePow, Nat.reduceLeDiff, Int.reduceToNat, Tryd.f93, DD, beq_self_eq_true, Bool.not_false, Bool.not_true, WI, IA]
  refine callK_of false whole_with.call (with_sat n l hl hla) rfl rfl (by simp [ownOK, own1, hd, fzH, fzArgs, fzCells, fz, IA, WI, U32]) (by simp [U32, isD_u32, isD_v, isD_nil, isD_agg, IA, WI]) ?_
  simp -implicitDefEqProofs only [go_sem, Nat.reduceAdd, Nat.reduceEqDiff, Nat.reduceLT, reduceIte, reduceCtorEq, Int.reduceLE, Int.reduceLT, Int.reduceEq, Int.reduceAdd, Int.reduceMul, Int.reduceSub, Nat.reduceMul, Nat.reduceSub, Nat.reducePow, Nat.reduceLeDiff, Int.reduceToNat, DD, x_app, x_ga0, x_gas, x_gan, Int.cast_ofNat_Int, eq_self, Int.zero_lt_one, Bool.not_false, Bool.not_true, beq_self_eq_true, WI, IA]
theorem neg_sat (n : Bool) (l : List Nat) (hl : Lm l) (hla : l.length < 1099511627776) : Sat CT false 76 [IA n l] (WI (- iv n l)) := by
  refine sat_of whole_Neg.ok (by simp) ?_
  have DD := whole_Neg.dr
  simp only [drP, drPx, drPt, drR, drS, drT, bodyOf, Tryd.f76, Nat.reduceEqDiff, reduceIte, true_and, and_true] at DD
  rw [← iv_not]
  simp -implicitDefEqProofs only [go_sem, Nat.reduceAdd, Nat.reduceEqDiff, Nat.reduceLT, reduceIte, reduceCtorEq, Int.reduceLE, Int.reduceLT, Int.reduceEq, Int.reduceAdd, Int.reduceMul, Int.reduceSub, Nat.reduceMul, Nat.reduceSub, Nat.reducePow, Nat.reduceLeDiff, Int.reduceToNat, Tryd.f76, DD, beq_self_eq_true, Bool.not_false, Bool.not_true, WI, IA]
  refine callK_of false whole_with.call (with_sat (!n) l hl hla) rfl rfl (by simp [ownOK, own1, hd, fzH, fzArgs, fzCells, fz, IA, WI, U32]) (by simp [U32, isD_u32, isD_v, isD_nil, isD_agg, IA, WI]) ?_
  simp -implicitDefEqProofs only [go_sem, Nat.reduceAdd, Nat.reduceEqDiff, Nat.reduceLT, reduceIte, reduceCtorEq, Int.reduceLE, Int.reduceLT, Int.reduceEq, Int.reduceAdd, Int.reduceMul, Int.reduceSub, Nat.reduceMul, Nat.reduceSub, Nat.reducePow, Nat.reduceLeDiff, Int.reduceToNat, DD, x_app, x_ga0, x_gas, x_gan, Int.cast_ofNat_Int, eq_self, Int.zero_lt_one, Bool.not_false, Bool.not_true, beq_self_eq_true, WI, IA]
theorem wadd_sat (n m : Bool) (l k : List Nat) (hl : Lm l) (hk : Lm k) (hla : l.length < 1099511627) (hlk : k.length < 1099511627) : Sat CT false 79 [IA n l, IA m k] (WI (iv n l + iv m k)) := by
  refine sat_of whole_Add.ok (by simp) ?_
  have DD := whole_Add.dr
  simp only [drP, drPx, drPt, drR, drS, drT, bodyOf, Tryd.f79, Nat.reduceEqDiff, reduceIte, true_and, and_true] at DD
  have g1 : (lim (nv l + nv k)).length ≤ 1099511628 := lim_add_len (lim_nv_len hl (by omega) (Nat.le_refl _)) (lim_nv_len hk (by omega) (Nat.le_refl _))
  have g2 := lim_nv_len (L := 1099511627) hl (by omega) (Nat.sub_le (nv l) (nv k))
  have g3 := lim_nv_len (L := 1099511627) hk (by omega) (Nat.sub_le (nv k) (nv l))
  by_cases hn : n = m
  · subst hn
    rw [← iv_add]
    simp -implicitDefEqProofs only [go_sem, Nat.reduceAdd, Nat.reduceEqDiff, Nat.reduceLT, reduceIte, reduceCtorEq, Int.reduceLE, Int.reduceLT, Int.reduceEq, Int.reduceAdd, Int.reduceMul, Int.reduceSub, Nat.reduceMul, Nat.reduceSub, Nat.reducePow, Nat.reduceLeDiff, Int.reduceToNat, Tryd.f79, DD, beq_self_eq_true, Bool.not_false, Bool.not_true, WI, IA]
    refine callK_of false nat_Add.call (nat_add_sat l k hl hk (by omega) (by omega)) rfl rfl (by simp [ownOK, own1, hd, fzH, fzArgs, fzCells, fz, IA, WI, U32]) (by simp [U32, isD_u32, isD_v, isD_nil, isD_agg, IA, WI]) ?_
    simp -implicitDefEqProofs only [go_sem, Nat.reduceAdd, Nat.reduceEqDiff, Nat.reduceLT, reduceIte, reduceCtorEq, Int.reduceLE, Int.reduceLT, Int.reduceEq, Int.reduceAdd, Int.reduceMul, Int.reduceSub, Nat.reduceMul, Nat.reduceSub, Nat.reducePow, Nat.reduceLeDiff, Int.reduceToNat, DD, x_app, x_ga0, x_gas, x_gan, Int.cast_ofNat_Int, eq_self, Int.zero_lt_one, Bool.not_false, Bool.not_true, beq_self_eq_true, WI, IA]
    refine callK_of false whole_with.call (with_sat n _ (Lm_lim _) (by omega)) rfl rfl (by simp [ownOK, own1, hd, fzH, fzArgs, fzCells, fz, IA, WI, U32]) (by simp [U32, isD_u32, isD_v, isD_nil, isD_agg, IA, WI]) ?_
    simp -implicitDefEqProofs only [go_sem, Nat.reduceAdd, Nat.reduceEqDiff, Nat.reduceLT, reduceIte, reduceCtorEq, Int.reduceLE, Int.reduceLT, Int.reduceEq, Int.reduceAdd, Int.reduceMul, Int.reduceSub, Nat.reduceMul, Nat.reduceSub, Nat.reducePow, Nat.reduceLeDiff, Int.reduceToNat, DD, x_app, x_ga0, x_gas, x_gan, Int.cast_ofNat_Int, eq_self, Int.zero_lt_one, Bool.not_false, Bool.not_true, beq_self_eq_true, WI, IA]
  · have c1 := cell_ne hn
    by_cases hle : nv k ≤ nv l
    · rw [← iv_sub1 hn hle]
      simp -implicitDefEqProofs only [go_sem, Nat.reduceAdd, Nat.reduceEqDiff, Nat.reduceLT, reduceIte, reduceCtorEq, Int.reduceLE, Int.reduceLT, Int.reduceEq, Int.reduceAdd, Int.reduceMul, Int.reduceSub, Nat.reduceMul, Nat.reduceSub, Nat.reducePow, Nat.reduceLeDiff, Int.reduceToNat, Tryd.f79, DD, beq_self_eq_true, Bool.not_false, Bool.not_true, WI, IA, c1]
      refine callK_of false nat_Sub.call (sub_ok l k hl hk (by omega) (by omega) hle) rfl rfl (by simp [ownOK, own1, hd, fzH, fzArgs, fzCells, fz, IA, WI, U32]) (by simp [U32, isD_u32, isD_v, isD_nil, isD_agg, IA, WI]) ?_
      simp -implicitDefEqProofs only [go_sem, Nat.reduceAdd, Nat.reduceEqDiff, Nat.reduceLT, reduceIte, reduceCtorEq, Int.reduceLE, Int.reduceLT, Int.reduceEq, Int.reduceAdd, Int.reduceMul, Int.reduceSub, Nat.reduceMul, Nat.reduceSub, Nat.reducePow, Nat.reduceLeDiff, Int.reduceToNat, DD, x_app, x_ga0, x_gas, x_gan, Int.cast_ofNat_Int, eq_self, Int.zero_lt_one, Bool.not_false, Bool.not_true, beq_self_eq_true, WI, IA, c1]
      refine callK_of false whole_with.call (with_sat n _ (Lm_lim _) (by omega)) rfl rfl (by simp [ownOK, own1, hd, fzH, fzArgs, fzCells, fz, IA, WI, U32]) (by simp [U32, isD_u32, isD_v, isD_nil, isD_agg, IA, WI]) ?_
      simp -implicitDefEqProofs only [go_sem, Nat.reduceAdd, Nat.reduceEqDiff, Nat.reduceLT, reduceIte, reduceCtorEq, Int.reduceLE, Int.reduceLT, Int.reduceEq, Int.reduceAdd, Int.reduceMul, Int.reduceSub, Nat.reduceMul, Nat.reduceSub, Nat.reducePow, Nat.reduceLeDiff, Int.reduceToNat, DD, x_app, x_ga0, x_gas, x_gan, Int.cast_ofNat_Int, eq_self, Int.zero_lt_one, Bool.not_false, Bool.not_true, beq_self_eq_true, WI, IA, c1]
    · rw [← iv_sub2 hn (by omega : nv l ≤ nv k)]
      simp -implicitDefEqProofs only [go_sem, Nat.reduceAdd, Nat.reduceEqDiff, Nat.reduceLT, reduceIte, reduceCtorEq, Int.reduceLE, Int.reduceLT, Int.reduceEq, Int.reduceAdd, Int.reduceMul, Int.reduceSub, Nat.reduceMul, Nat.reduceSub, Nat.reducePow, Nat.reduceLeDiff, Int.reduceToNat, Tryd.f79, DD, beq_self_eq_true, Bool.not_false, Bool.not_true, WI, IA, c1]
      refine callK_of false nat_Sub.call (sub_no l k hl hk (by omega) (by omega) (by omega)) rfl rfl (by simp [ownOK, own1, hd, fzH, fzArgs, fzCells, fz, IA, WI, U32]) (by simp [U32, isD_u32, isD_v, isD_nil, isD_agg, IA, WI]) ?_
      simp -implicitDefEqProofs only [go_sem, Nat.reduceAdd, Nat.reduceEqDiff, Nat.reduceLT, reduceIte, reduceCtorEq, Int.reduceLE, Int.reduceLT, Int.reduceEq, Int.reduceAdd, Int.reduceMul, Int.reduceSub, Nat.reduceMul, Nat.reduceSub, Nat.reducePow, Nat.reduceLeDiff, Int.reduceToNat, DD, x_app, x_ga0, x_gas, x_gan, Int.cast_ofNat_Int, eq_self, Int.zero_lt_one, Bool.not_false, Bool.not_true, beq_self_eq_true, WI, IA, c1]
      refine callK_of false nat_Sub.call (sub_ok k l hk hl (by omega) (by omega) (by omega)) rfl rfl (by simp [ownOK, own1, hd, fzH, fzArgs, fzCells, fz, IA, WI, U32]) (by simp [U32, isD_u32, isD_v, isD_nil, isD_agg, IA, WI]) ?_
      simp -implicitDefEqProofs only [go_sem, Nat.reduceAdd, Nat.reduceEqDiff, Nat.reduceLT, reduceIte, reduceCtorEq, Int.reduceLE, Int.reduceLT, Int.reduceEq, Int.reduceAdd, Int.reduceMul, Int.reduceSub, Nat.reduceMul, Nat.reduceSub, Nat.reducePow, Nat.reduceLeDiff, Int.reduceToNat, DD, x_app, x_ga0, x_gas, x_gan, Int.cast_ofNat_Int, eq_self, Int.zero_lt_one, Bool.not_false, Bool.not_true, beq_self_eq_true, WI, IA, c1]
      refine callK_of false whole_with.call (with_sat m _ (Lm_lim _) (by omega)) rfl rfl (by simp [ownOK, own1, hd, fzH, fzArgs, fzCells, fz, IA, WI, U32]) (by simp [U32, isD_u32, isD_v, isD_nil, isD_agg, IA, WI]) ?_
      simp -implicitDefEqProofs only [go_sem, Nat.reduceAdd, Nat.reduceEqDiff, Nat.reduceLT, reduceIte, reduceCtorEq, Int.reduceLE, Int.reduceLT, Int.reduceEq, Int.reduceAdd, Int.reduceMul, Int.reduceSub, Nat.reduceMul, Nat.reduceSub, Nat.reducePow, Nat.reduceLeDiff, Int.reduceToNat, DD, x_app, x_ga0, x_gas, x_gan, Int.cast_ofNat_Int, eq_self, Int.zero_lt_one, Bool.not_false, Bool.not_true, beq_self_eq_true, WI, IA, c1]
theorem wsub_sat (n m : Bool) (l k : List Nat) (hl : Lm l) (hk : Lm k) (hla : l.length < 1099511627) (hlk : k.length < 1099511627) : Sat CT false 97 [IA n l, IA m k] (WI (iv n l - iv m k)) := by
  refine sat_of whole_Sub.ok (by simp) ?_
  have DD := whole_Sub.dr
  simp only [drP, drPx, drPt, drR, drS, drT, bodyOf, Tryd.f97, Nat.reduceEqDiff, reduceIte, true_and, and_true] at DD
  rw [Int.sub_eq_add_neg, ← iv_not]
  simp -implicitDefEqProofs only [go_sem, Nat.reduceAdd, Nat.reduceEqDiff, Nat.reduceLT, reduceIte, reduceCtorEq, Int.reduceLE, Int.reduceLT, Int.reduceEq, Int.reduceAdd, Int.reduceMul, Int.reduceSub, Nat.reduceMul, Nat.reduceSub, Nat.reducePow, Nat.reduceLeDiff, Int.reduceToNat, Tryd.f97, DD, beq_self_eq_true, Bool.not_false, Bool.not_true, WI, IA]
  refine callK_of false whole_Add.call (wadd_sat n (!m) l k hl hk hla hlk) rfl rfl (by simp [ownOK, own1, hd, fzH, fzArgs, fzCells, fz, IA, WI, U32]) (by simp [U32, isD_u32, isD_v, isD_nil, isD_agg, IA, WI]) ?_
  simp -implicitDefEqProofs only [go_sem, Nat.reduceAdd, Nat.reduceEqDiff, Nat.reduceLT, reduceIte, reduceCtorEq, Int.reduceLE, Int.reduceLT, Int.reduceEq, Int.reduceAdd, Int.reduceMul, Int.reduceSub, Nat.reduceMul, Nat.reduceSub, Nat.reducePow, Nat.reduceLeDiff, Int.reduceToNat, DD, x_app, x_ga0, x_gas, x_gan, Int.cast_ofNat_Int, eq_self, Int.zero_lt_one, Bool.not_false, Bool.not_true, beq_self_eq_true, WI, IA]
theorem wmul_sat (n m : Bool) (l k : List Nat) (hl : Lm l) (hk : Lm k) (hla : l.length < 1099511627) (hlk : k.length < 1099511627) : Sat CT false 77 [IA n l, IA m k] (WI (iv n l * iv m k)) := by
  refine sat_of whole_Mul.ok (by simp) ?_
  have DD := whole_Mul.dr
  simp only [drP, drPx, drPt, drR, drS, drT, bodyOf, Tryd.f77, Nat.reduceEqDiff, reduceIte, true_and, and_true] at DD
  rw [← iv_mul]
  have g1 : (lim (nv l * nv k)).length ≤ 1099511627 + 1099511627 := lim_mul_len (lim_nv_len hl (by omega) (Nat.le_refl _)) (lim_nv_len hk (by omega) (Nat.le_refl _))
  simp -implicitDefEqProofs only [go_sem, Nat.reduceAdd, Nat.reduceEqDiff, Nat.reduceLT, reduceIte, reduceCtorEq, Int.reduceLE, Int.reduceLT, Int.reduceEq, Int.reduceAdd, Int.reduceMul, Int.reduceSub, Nat.reduceMul, Nat.reduceSub, Nat.reducePow, Nat.reduceLeDiff, Int.reduceToNat, Tryd.f77, DD, beq_self_eq_true, Bool.not_false, Bool.not_true, WI, IA]
  refine callK_of false nat_Mul.call (mul_sat l k hl hk (by omega) (by omega)) rfl rfl (by simp [ownOK, own1, hd, fzH, fzArgs, fzCells, fz, IA, WI, U32]) (by simp [U32, isD_u32, isD_v, isD_nil, isD_agg, IA, WI]) ?_
  simp -implicitDefEqProofs only [go_sem, Nat.reduceAdd, Nat.reduceEqDiff, Nat.reduceLT, reduceIte, reduceCtorEq, Int.reduceLE, Int.reduceLT, Int.reduceEq, Int.reduceAdd, Int.reduceMul, Int.reduceSub, Nat.reduceMul, Nat.reduceSub, Nat.reducePow, Nat.reduceLeDiff, Int.reduceToNat, DD, x_app, x_ga0, x_gas, x_gan, Int.cast_ofNat_Int, eq_self, Int.zero_lt_one, Bool.not_false, Bool.not_true, beq_self_eq_true, WI, IA]
  refine callK_of false whole_with.call (with_sat (!(n == m)) _ (Lm_lim _) (by omega)) rfl rfl (by simp [ownOK, own1, hd, fzH, fzArgs, fzCells, fz, IA, WI, U32]) (by simp [U32, isD_u32, isD_v, isD_nil, isD_agg, IA, WI]) ?_
  simp -implicitDefEqProofs only [go_sem, Nat.reduceAdd, Nat.reduceEqDiff, Nat.reduceLT, reduceIte, reduceCtorEq, Int.reduceLE, Int.reduceLT, Int.reduceEq, Int.reduceAdd, Int.reduceMul, Int.reduceSub, Nat.reduceMul, Nat.reduceSub, Nat.reducePow, Nat.reduceLeDiff, Int.reduceToNat, DD, x_app, x_ga0, x_gas, x_gan, Int.cast_ofNat_Int, eq_self, Int.zero_lt_one, Bool.not_false, Bool.not_true, beq_self_eq_true, WI, IA]
end Go.Ab
