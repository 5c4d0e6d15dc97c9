/- Contracts of this seat's functions (of each call: what it answers), walked over the abstract machine, and the laws of numbers that they want. Conditions: those that each theorem states. -/
import Derived.Test.YtikemgpeiecdcaaGreatDoorD8
set_option linter.unusedVariables false
set_option maxRecDepth 20000
set_option linter.unusedSimpArgs false
set_option linter.unusedSectionVars false
namespace Go.Ab
open Go.Proofs
open Cx (zero one)
attribute [-go_sem] appF newsF
variable {a b : AV} {z w : Cx} {B C n m : Nat} {cs ds : List AV} {f g : Po}

theorem x_cellsCI {z : Cx} : cellsA (CI z) = some (CIc z) := rfl
theorem x_lenCIc {z : Cx} : (CIc z).length = 6 := rfl
theorem x_leafCIc {z : Cx} : (CIc z).all leafA = true := rfl
attribute [go_sem] CI_c x_lenCIc x_leafCIc
theorem CI_0 : CI zero = .agg [Bo false, .sl 0 [], I64 0, Bo false, .sl 0 [], I64 0] := by
  show AV.agg [Bo (decide ((0 : Int) < 0)), U32 (lim (0 : Int).natAbs), I64 0, Bo (decide ((0 : Int) < 0)), U32 (lim (0 : Int).natAbs), I64 0] = _
  rw [show (0 : Int).natAbs = 0 from rfl, lim_zero]; rfl
theorem ptrim_s (h : RP cs n f B) (hB : B ≤ 20000) : Sat CT false 12 [.sl n cs] (PA (dg n f) f) := sat_of_hsat (ptrim_h h hB) (fun a H' q => ret_ASl q)
theorem ptrim_P (h : PB f B) (hs : Sp n f) (hn : n ≤ 1000000) (hB : B ≤ 20000) : Sat CT false 12 [PA n f] (PA (dg n f) f) := ptrim_s (RP_P h hs hn) hB
theorem pdeg_s (h : RP cs n f B) (hB : B ≤ 20000) (hcs : ∀ c ∈ cs, IsD c) : Sat CT false 13 [.sl n cs] (I64 ((dg n f : Nat) - 1)) := by
  refine sat_of poly_Degree.ok (by simp) ?_
  have DD := poly_Degree.dr
  simp only [drP, drPx, drR, drS, bodyOf, Tryz.f13, Nat.reduceEqDiff, reduceIte, true_and, and_true] at DD
  have hle := dg_le n f
  have hsm := h.small
  have q := ptrim_s h hB
  have c1 : IntKind.i64.wrap ((dg n f : Int) - 1) = (dg n f : Int) - 1 := wrap_id (by omega)
  simp -implicitDefEqProofs only [go_sem, Nat.reduceAdd, Nat.reduceEqDiff, Nat.reduceLT, reduceIte, reduceCtorEq, Int.reduceLE, Int.reduceLT, Int.reduceEq, Int.reduceAdd, Int.reduceMul, Int.reduceSub, Nat.reduceMul, Nat.reduceSub, Nat.reducePow, Nat.reduceLeDiff, Int.reduceToNat, Tryz.f13, DD, x_app, x_ga0, x_gas, x_gan, Int.cast_ofNat_Int, eq_self, Int.zero_lt_one, Bool.not_false, Bool.not_true, beq_self_eq_true, c1]
  refine callK_pl poly_Trim.call (q) (pl1 (pld_sl hcs)) ?_
  simp -implicitDefEqProofs only [go_sem, Nat.reduceAdd, Nat.reduceEqDiff, Nat.reduceLT, reduceIte, reduceCtorEq, Int.reduceLE, Int.reduceLT, Int.reduceEq, Int.reduceAdd, Int.reduceMul, Int.reduceSub, Nat.reduceMul, Nat.reduceSub, Nat.reducePow, Nat.reduceLeDiff, Int.reduceToNat, DD, x_app, x_ga0, x_gas, x_gan, Int.cast_ofNat_Int, eq_self, Int.zero_lt_one, Bool.not_false, Bool.not_true, beq_self_eq_true, PA, c1]
/-- what is at a place -/
def atA (cs : List AV) (n i : Nat) : AV := if i < n then .agg ((cs.drop (i * 6)).take 6) else CI zero
theorem rc_at (h : RP cs n f B) (i : Nat) : RC (atA cs n i) (f i) B := by
  unfold atA; split
  · rename_i q; exact h.el i q
  · rename_i q; rw [h.sp i (by omega)]; exact RC_C (CB.zero B)
theorem atA_lt {cs : List AV} {n i : Nat} (h : i < n) : atA cs n i = .agg ((cs.drop (i * 6)).take 6) := if_pos h
theorem atA_ge {cs : List AV} {n i : Nat} (h : ¬ i < n) : atA cs n i = .agg [Bo false, .sl 0 [], I64 0, Bo false, .sl 0 [], I64 0] := (if_neg h).trans CI_0
theorem pat_s (h : RP cs n f B) (i : Nat) : Sat CT false 42 [.sl n cs, I64 (i : Nat)] (atA cs n i) := by
  refine sat_of poly_at.ok (by simp) ?_
  have DD := poly_at.dr
  simp only [drP, drPx, drR, drS, bodyOf, Tryz.f42, Nat.reduceEqDiff, reduceIte, true_and, and_true] at DD
  have hlen := h.len
  by_cases hi : i < n
  · obtain ⟨s, l, e, t, k, g, hc, hr⟩ := h.cells hi
    rw [atA_lt hi, hc]
    have c1 : ¬ (n : Int) ≤ (i : Int) := by omega
    have c2 : (0 : Int) ≤ (i : Int) := by omega
    have c3 : (i : Int) < (n : Int) := by omega
    have c4 : i * 6 < cs.length := by omega
    have c5 : i * 6 + 6 ≤ cs.length := by omega
    simp -implicitDefEqProofs only [go_sem, Nat.reduceAdd, Nat.reduceEqDiff, Nat.reduceLT, reduceIte, reduceCtorEq, Int.reduceLE, Int.reduceLT, Int.reduceEq, Int.reduceAdd, Int.reduceMul, Int.reduceSub, Nat.reduceMul, Nat.reduceSub, Nat.reducePow, Nat.reduceLeDiff, Int.reduceToNat, Tryz.f42, DD, x_app, x_ga0, x_gas, x_gan, Int.cast_ofNat_Int, eq_self, Int.zero_lt_one, Bool.not_false, Bool.not_true, beq_self_eq_true, c1, c2, c3, c4, c5, hc]
  · rw [atA_ge hi]
    have c1 : (n : Int) ≤ (i : Int) := by omega
    simp -implicitDefEqProofs only [go_sem, Nat.reduceAdd, Nat.reduceEqDiff, Nat.reduceLT, reduceIte, reduceCtorEq, Int.reduceLE, Int.reduceLT, Int.reduceEq, Int.reduceAdd, Int.reduceMul, Int.reduceSub, Nat.reduceMul, Nat.reduceSub, Nat.reducePow, Nat.reduceLeDiff, Int.reduceToNat, Tryz.f42, DD, x_app, x_ga0, x_gas, x_gan, Int.cast_ofNat_Int, eq_self, Int.zero_lt_one, Bool.not_false, Bool.not_true, beq_self_eq_true, c1]
theorem rat_s (h : RP cs n f B) (i : Nat) : Sat CT false 43 [.sl n cs, I64 (i : Nat)] (atA cs n i) := by
  refine sat_of annulusref11_at.ok (by simp) ?_
  have DD := annulusref11_at.dr
  simp only [drP, drPx, drR, drS, bodyOf, Tryz.f43, Nat.reduceEqDiff, reduceIte, true_and, and_true] at DD
  have hlen := h.len
  by_cases hi : i < n
  · obtain ⟨s, l, e, t, k, g, hc, hr⟩ := h.cells hi
    rw [atA_lt hi, hc]
    have c2 : (0 : Int) ≤ (i : Int) := by omega
    have c3 : (i : Int) < (n : Int) := by omega
    have c4 : i * 6 < cs.length := by omega
    have c5 : i * 6 + 6 ≤ cs.length := by omega
    simp -implicitDefEqProofs only [go_sem, Nat.reduceAdd, Nat.reduceEqDiff, Nat.reduceLT, reduceIte, reduceCtorEq, Int.reduceLE, Int.reduceLT, Int.reduceEq, Int.reduceAdd, Int.reduceMul, Int.reduceSub, Nat.reduceMul, Nat.reduceSub, Nat.reducePow, Nat.reduceLeDiff, Int.reduceToNat, Tryz.f43, DD, x_app, x_ga0, x_gas, x_gan, Int.cast_ofNat_Int, eq_self, Int.zero_lt_one, Bool.not_false, Bool.not_true, beq_self_eq_true, c2, c3, c4, c5, hc]
  · rw [atA_ge hi]
    have c1 : ¬ (i : Int) < (n : Int) := by omega
    simp -implicitDefEqProofs only [go_sem, Nat.reduceAdd, Nat.reduceEqDiff, Nat.reduceLT, reduceIte, reduceCtorEq, Int.reduceLE, Int.reduceLT, Int.reduceEq, Int.reduceAdd, Int.reduceMul, Int.reduceSub, Nat.reduceMul, Nat.reduceSub, Nat.reducePow, Nat.reduceLeDiff, Int.reduceToNat, Tryz.f43, DD, x_app, x_ga0, x_gas, x_gan, Int.cast_ofNat_Int, eq_self, Int.zero_lt_one, Bool.not_false, Bool.not_true, beq_self_eq_true, c1]
theorem spl_row {cells : List AV} {N i : Nat} {f : Po} (hl : cells.length = N * 6) (ht : cells.take (i * 6) = pcl i f) (hi : i < N) : (spl cells (i * 6) (CIc (f i))).length = N * 6 ∧ (spl cells (i * 6) (CIc (f i))).take ((i + 1) * 6) = pcl (i + 1) f := by
  have h6 : (CIc (f i)).length = 6 := rfl
  unfold spl
  refine ⟨?_, ?_⟩
  · rw [List.length_append, List.length_append, List.length_take, List.length_drop, h6]; omega
  · rw [ht, ← pclS, List.take_append_of_le_length (by rw [pcl_len]; exact Nat.le_refl _), List.take_of_length_le (by rw [pcl_len]; exact Nat.le_refl _)]
theorem zer_len (N : Nat) {a b c d e f : Value} : (zerosA [a, b, c, d, e, f] N).length = N * 6 := by simp [zerosA]
theorem row_end {cells : List AV} {N : Nat} {f : Po} (hl : cells.length = N * 6) (ht : cells.take (N * 6) = pcl N f) : cells = pcl N f := by rw [← ht, ← hl, List.take_length]
theorem Sp.psub {f g : Po} {n m : Nat} (h : Sp n f) (h' : Sp m g) : Sp (max n m) (psub f g) := fun k hk => by
  show f k - g k = zero
  rw [h k (by omega), h' k (by omega)]; rfl
theorem Sp.padd {f g : Po} {n m : Nat} (h : Sp n f) (h' : Sp m g) : Sp (max n m) (padd f g) := fun k hk => by
  show f k + g k = zero
  rw [h k (by omega), h' k (by omega)]; rfl
theorem pld_at (h : RP cs n f B) (i : Nat) : PlD (atA cs n i) := pld_RC (rc_at h i)
theorem psub_s (h : RP cs n f B) (h' : RP ds m g C) (hB : B ≤ 19999) (hC : C ≤ 19999) (hcs : ∀ c ∈ cs, IsD c) (hds : ∀ c ∈ ds, IsD c) : Sat CT false 17 [.sl n cs, .sl m ds] (PA (dg (max n m) (psub f g)) (psub f g)) := by
  refine sat_of poly_Sub.ok (by simp) ?_
  have DD := poly_Sub.dr
  simp only [drP, drPx, drR, drS, bodyOf, Tryz.f17, Nat.reduceEqDiff, reduceIte, true_and, and_true] at DD
  have h1 := h.small
  have h2 := h'.small
  have hP : PB (psub f g) (max B C + 1) := (h.pb.mono (Nat.le_max_left B C)).sub (h'.pb.mono (Nat.le_max_right B C))
  have hsp := Sp.psub h.sp h'.sp
  have hmx : max (n : Int) (m : Int) = ((max n m : Nat) : Int) := by omega
  have hN : max n m ≤ 1000000 := by omega
  generalize max n m = N at *
  simp -implicitDefEqProofs only [go_sem, Nat.reduceAdd, Nat.reduceEqDiff, Nat.reduceLT, reduceIte, reduceCtorEq, Int.reduceLE, Int.reduceLT, Int.reduceEq, Int.reduceAdd, Int.reduceMul, Int.reduceSub, Nat.reduceMul, Nat.reduceSub, Nat.reducePow, Nat.reduceLeDiff, Int.reduceToNat, Tryz.f17, DD, x_app, x_ga0, x_gas, x_gan, Int.cast_ofNat_Int, eq_self, Int.zero_lt_one, Bool.not_false, Bool.not_true, beq_self_eq_true, hmx]
  refine ⟨by omega, ?_⟩
  refine loop_of aW0_mono (fun k σ => ∃ sl cells i, σ = ⟨sl, [⟨cells, true, true⟩]⟩ ∧ k = N - i ∧ i ≤ N ∧ look sl 0 = .sl n cs ∧ look sl 1 = .sl m ds ∧ look sl 5 = .own 6 0 0 N ∧ look sl 14 = I64 (N : Nat) ∧ look sl 15 = I64 (i : Nat) ∧ cells.length = N * 6 ∧ cells.take (i * 6) = pcl i (psub f g)) ?_ (n := N)
    ⟨_, _, 0, rfl, rfl, Nat.zero_le _, by simp [x_look], by simp [x_look], by simp [x_look], by simp [x_look], by simp [x_look], zer_len N, by rw [Nat.zero_mul, pcl0]; rfl⟩
  rintro k _ ⟨sl, cells, i, rfl, rfl, hi, k0, k1, k5, k14, k15, hl, ht⟩
  by_cases hid : i = N
  · subst hid
    have he := row_end hl ht
    subst he
    simp -implicitDefEqProofs only [go_sem, Nat.reduceAdd, Nat.reduceEqDiff, Nat.reduceLT, reduceIte, reduceCtorEq, Int.reduceLE, Int.reduceLT, Int.reduceEq, Int.reduceAdd, Int.reduceMul, Int.reduceSub, Nat.reduceMul, Nat.reduceSub, Nat.reducePow, Nat.reduceLeDiff, Int.reduceToNat, DD, x_app, x_ga0, x_gas, x_gan, Int.cast_ofNat_Int, eq_self, Int.zero_lt_one, Bool.not_false, Bool.not_true, beq_self_eq_true, k0, k1, k5, k14, k15, Int.lt_irrefl]
    refine callK_ar poly_Trim.call (ptrim_P hP hsp hN (by omega)) (.cons (.row (cs := pcl i (psub f g)) (.inr ⟨0, true, rfl, rfl, by simp, hl⟩) (snap0_pcl _ _) (isD_pcl _ _)) .nil) rfl ?_
    intro H' _
    simp -implicitDefEqProofs only [go_sem, Nat.reduceAdd, Nat.reduceEqDiff, Nat.reduceLT, reduceIte, reduceCtorEq, Int.reduceLE, Int.reduceLT, Int.reduceEq, Int.reduceAdd, Int.reduceMul, Int.reduceSub, Nat.reduceMul, Nat.reduceSub, Nat.reducePow, Nat.reduceLeDiff, Int.reduceToNat, DD, x_app, x_ga0, x_gas, x_gan, Int.cast_ofNat_Int, eq_self, Int.zero_lt_one, Bool.not_false, Bool.not_true, beq_self_eq_true, k0, k1, k5, k14, k15]
    exact ⟨trivial, isD_PA _ _, rfl⟩
  · have c1 : (i : Int) < (N : Int) := by omega
    have c2 : (0 : Int) ≤ (i : Int) := by omega
    have c3 : IntKind.i64.wrap ((i : Int) + 1) = ((i + 1 : Nat) : Int) := by rw [wrap_id (by omega)]; omega
    have c4 : i * 6 + 6 ≤ N * 6 := by omega
    simp -implicitDefEqProofs only [go_sem, Nat.reduceAdd, Nat.reduceEqDiff, Nat.reduceLT, reduceIte, reduceCtorEq, Int.reduceLE, Int.reduceLT, Int.reduceEq, Int.reduceAdd, Int.reduceMul, Int.reduceSub, Nat.reduceMul, Nat.reduceSub, Nat.reducePow, Nat.reduceLeDiff, Int.reduceToNat, DD, x_app, x_ga0, x_gas, x_gan, Int.cast_ofNat_Int, eq_self, Int.zero_lt_one, Bool.not_false, Bool.not_true, beq_self_eq_true, k0, k1, k5, k14, k15, c1, c2, c3, c4]
    refine callK_pl poly_at.call (pat_s h i) (pl2 (pld_sl hcs) pld_int) ?_
    simp -implicitDefEqProofs only [go_sem, Nat.reduceAdd, Nat.reduceEqDiff, Nat.reduceLT, reduceIte, reduceCtorEq, Int.reduceLE, Int.reduceLT, Int.reduceEq, Int.reduceAdd, Int.reduceMul, Int.reduceSub, Nat.reduceMul, Nat.reduceSub, Nat.reducePow, Nat.reduceLeDiff, Int.reduceToNat, DD, x_app, x_ga0, x_gas, x_gan, Int.cast_ofNat_Int, eq_self, Int.zero_lt_one, Bool.not_false, Bool.not_true, beq_self_eq_true, k0, k1, k5, k14, k15, c1, c2, c3, c4]
    refine callK_pl poly_at.call (pat_s h' i) (pl2 (pld_sl hds) pld_int) ?_
    simp -implicitDefEqProofs only [go_sem, Nat.reduceAdd, Nat.reduceEqDiff, Nat.reduceLT, reduceIte, reduceCtorEq, Int.reduceLE, Int.reduceLT, Int.reduceEq, Int.reduceAdd, Int.reduceMul, Int.reduceSub, Nat.reduceMul, Nat.reduceSub, Nat.reducePow, Nat.reduceLeDiff, Int.reduceToNat, DD, x_app, x_ga0, x_gas, x_gan, Int.cast_ofNat_Int, eq_self, Int.zero_lt_one, Bool.not_false, Bool.not_true, beq_self_eq_true, k0, k1, k5, k14, k15, c1, c2, c3, c4]
    refine callK_pl gauss_Sub.call (gsub_r (rc_at h i) (rc_at h' i) (by omega) (by omega)) (pl2 (pld_at h i) (pld_at h' i)) ?_
    simp -implicitDefEqProofs only [go_sem, Nat.reduceAdd, Nat.reduceEqDiff, Nat.reduceLT, reduceIte, reduceCtorEq, Int.reduceLE, Int.reduceLT, Int.reduceEq, Int.reduceAdd, Int.reduceMul, Int.reduceSub, Nat.reduceMul, Nat.reduceSub, Nat.reducePow, Nat.reduceLeDiff, Int.reduceToNat, DD, x_app, x_ga0, x_gas, x_gan, Int.cast_ofNat_Int, eq_self, Int.zero_lt_one, Bool.not_false, Bool.not_true, beq_self_eq_true, k0, k1, k5, k14, k15, c1, c2, c3, c4, hl]
    obtain ⟨e1, e2⟩ := spl_row hl ht (by omega)
    exact ⟨N - (i + 1), by omega, _, _, i + 1, rfl, rfl, by omega, by simp [x_look, k0], by simp [x_look, k1], by simp [x_look, k5], by simp [x_look, k14], by simp [x_look], e1, e2⟩
end Go.Ab
