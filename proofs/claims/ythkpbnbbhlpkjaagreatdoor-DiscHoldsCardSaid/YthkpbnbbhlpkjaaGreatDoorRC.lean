/- Contracts of layers 4 to 6 (quot.Root and the document's, zero cases, dyad's comparisons, known, round) and the plain laws of quotients and roots. -/
import Derived.Test.YthkpbnbbhlpkjaaGreatDoorR2
import Derived.Test.YthkpbnbbhlpkjaaGreatDoorR1
set_option linter.unusedVariables false
set_option maxRecDepth 20000
set_option linter.unusedSimpArgs false
set_option linter.unusedSectionVars false
namespace Go.Ab
open Go.Proofs
theorem wdown_pos (A : Nat) (k : Nat) (hA : (lim A).length < 1000000) (hk : k ≤ 100000) : Sat CT false 172 [IA false (lim A), I64 k] (WI (A / 2 ^ k : Nat)) := by
  refine sat_of whole_Downwards.ok (by simp) ?_
  have DD := whole_Downwards.dr
  simp only [drP, drPx, drPt, drR, drS, drT, bodyOf, Tryz.f172, Nat.reduceEqDiff, reduceIte, true_and, and_true] at DD
  have h1 := down_sat (lim A) k (Lm_lim _) (le_lt (Nat.le_of_lt hA) (by decide)) hk
  rw [nv_lim] at h1
  have l1 := lim_nv_len (L := 1000000) (Lm_lim A) (Nat.le_of_lt hA) (x := A / 2 ^ k) (by rw [nv_lim]; exact Nat.div_le_self _ _)
  have w1 := with_sat false (lim (A / 2 ^ k)) (Lm_lim _) (le_lt l1 (by decide))
  have n1 := norm_sat false (lim A) (Lm_lim _) (le_lt (Nat.le_of_lt hA) (by decide))
  rw [iv_lim] at n1 w1
  simp only [Bool.false_eq_true, if_false] at n1 w1
  have c0 : decide ((A : Int) < 0) = false := decide_eq_false (Int.not_lt.2 (Int.natCast_nonneg A))
  simp -implicitDefEqProofs only [go_sem, simprocAttr, -Int.reducePow, Tryz.f172, DD, c0]
  refine callK_q nat_Downwards.call (h1) rfl rfl ?_
  simp -implicitDefEqProofs only [go_sem, simprocAttr, -Int.reducePow, DD, c0]
  refine callK_q whole_with.call (w1) rfl rfl ?_
  simp -implicitDefEqProofs only [go_sem, simprocAttr, -Int.reducePow, DD, c0]
  refine callK_q whole_Norm.call (n1) rfl rfl ?_
  simp -implicitDefEqProofs only [go_sem, simprocAttr, -Int.reducePow, DD, c0]
theorem moved_up (A : Nat) (n : Nat) (hA : (lim A).length < 1000000) (hn : n ≤ 50000) : Sat CT false 144 [IA false (lim A), I64 n] (.tup [WI (A * 2 ^ n : Nat), Bo true]) := by
  refine sat_of quot_moved.ok (by simp) ?_
  have DD := quot_moved.dr
  simp only [drP, drPx, drPt, drR, drS, drT, bodyOf, Tryz.f144, Nat.reduceEqDiff, reduceIte, true_and, and_true] at DD
  have u1 := wup_int false (lim A) n n (by omega) (Lm_lim _) (by omega) (by omega)
  rw [iv_lim] at u1
  simp only [Bool.false_eq_true, if_false] at u1
  have e : (A : Int) * 2 ^ n = ((A * 2 ^ n : Nat) : Int) := by push_cast; rfl
  rw [e] at u1
  have c0 : ¬ (n : Int) < 0 := by omega
  have c1 : (0 : Int) ≤ n := by omega
  simp -implicitDefEqProofs only [go_sem, simprocAttr, -Int.reducePow, Tryz.f144, DD, c0, c1, ge_iff_le]
  refine callK_q whole_Up.call (u1) rfl rfl ?_
  simp -implicitDefEqProofs only [go_sem, simprocAttr, -Int.reducePow, DD, c0, c1, ge_iff_le]
theorem wup_W (z : Int) (k : Nat) (hl : Lz z < 1099511) (hk : k ≤ 100000) : Sat CT false 127 [WI z, I64 k] (WI (z * 2 ^ k)) := by
  have := wup_int (decide (z < 0)) (lim z.natAbs) k k (by omega) (Lm_lim _) hl hk
  rw [iv_W] at this
  exact this
theorem moved_eq (A n : Nat) : A / 2 ^ n * 2 ^ n = A ↔ A % 2 ^ n = 0 := by
  have := Nat.div_add_mod A (2 ^ n)
  rw [Nat.mul_comm] at this
  omega
set_option maxHeartbeats 1000000 in
theorem moved_dn (A : Nat) (n : Nat) (hA : (lim A).length < 1000000) (hn : n ≤ 50000) (h1 : 1 ≤ n) : Sat CT false 144 [IA false (lim A), I64 (-(n : Int))] (.tup [WI (A / 2 ^ n : Nat), Bo (decide (A % 2 ^ n = 0))]) := by
  refine sat_of quot_moved.ok (by simp) ?_
  have DD := quot_moved.dr
  simp only [drP, drPx, drPt, drR, drS, drT, bodyOf, Tryz.f144, Nat.reduceEqDiff, reduceIte, true_and, and_true] at DD
  have c0 : -(n : Int) < 0 := by omega
  have c1 : ¬ (0 : Int) ≤ -(n : Int) := by omega
  have w1 : IntKind.i64.wrap (0 - (-(n : Int))) = n := by rw [wrap_id (by omega)]; omega
  have d1 := wdown_pos A n hA (by omega)
  have l0 := lim_nv_len (L := 1000000) (Lm_lim A) (Nat.le_of_lt hA) (x := A / 2 ^ n) (by rw [nv_lim]; exact Nat.div_le_self _ _)
  have l1 : Lz ((A / 2 ^ n : Nat) : Int) ≤ 1000000 := l0
  have u1 := wup_W ((A / 2 ^ n : Nat) : Int) n (le_lt l1 (by decide)) (by omega)
  have e : ((A / 2 ^ n : Nat) : Int) * 2 ^ n = ((A / 2 ^ n * 2 ^ n : Nat) : Int) := by push_cast; rfl
  rw [e] at u1
  have l2 : Lz ((A / 2 ^ n * 2 ^ n : Nat) : Int) ≤ 1000000 := lim_nv_len (L := 1000000) (Lm_lim A) (Nat.le_of_lt hA) (x := A / 2 ^ n * 2 ^ n) (by rw [nv_lim]; exact Nat.div_mul_le_self _ _)
  have r2 : RI (IA false (lim A)) (A : Int) 1000000 := ⟨false, lim A, rfl, Lm_lim _, by rw [iv_lim]; simp, Nat.le_of_lt hA⟩
  have k1 := cmp_r (RI_W l2) r2 (by decide) (by decide)
  clear l1 l2 l0 r2
  by_cases hx : A % 2 ^ n = 0
  · have hx2 := (moved_eq A n).2 hx
    have cs : (((A / 2 ^ n * 2 ^ n : Nat) : Int) - (A : Int)).sign = 0 := by rw [hx2, Int.sub_self]; rfl
    rw [decide_eq_true hx]
    simp -implicitDefEqProofs only [go_sem, simprocAttr, -Int.reducePow, Tryz.f144, DD, c0, c1, ge_iff_le, w1, cs]
    refine callK_q whole_Downwards.call (d1) rfl rfl ?_
    simp -implicitDefEqProofs only [go_sem, simprocAttr, -Int.reducePow, DD, c0, c1, ge_iff_le, w1, TMOVED, cs]
    repeat' (first | refine ⟨?_, ?_⟩ | (refine callK_q whole_Up.call (u1) rfl rfl ?_; simp -implicitDefEqProofs only [go_sem, simprocAttr, -Int.reducePow, DD, c0, c1, ge_iff_le, w1, cs]) | (refine callK_q whole_Cmp.call (k1) rfl rfl ?_; simp -implicitDefEqProofs only [go_sem, simprocAttr, -Int.reducePow, DD, c0, c1, ge_iff_le, w1, cs]))
  · have hx2 : ¬ A / 2 ^ n * 2 ^ n = A := fun q => hx ((moved_eq A n).1 q)
    have cs : ¬ (((A / 2 ^ n * 2 ^ n : Nat) : Int) - (A : Int)).sign = 0 := fun q => hx2 (by have := Int.sign_eq_zero_iff_zero.1 q; omega)
    rw [decide_eq_false hx]
    simp -implicitDefEqProofs only [go_sem, simprocAttr, -Int.reducePow, Tryz.f144, DD, c0, c1, ge_iff_le, w1, cs]
    refine callK_q whole_Downwards.call (d1) rfl rfl ?_
    simp -implicitDefEqProofs only [go_sem, simprocAttr, -Int.reducePow, DD, c0, c1, ge_iff_le, w1, TMOVED, cs]
    repeat' (first | refine ⟨?_, ?_⟩ | (refine callK_q whole_Up.call (u1) rfl rfl ?_; simp -implicitDefEqProofs only [go_sem, simprocAttr, -Int.reducePow, DD, c0, c1, ge_iff_le, w1, cs]) | (refine callK_q whole_Cmp.call (k1) rfl rfl ?_; simp -implicitDefEqProofs only [go_sem, simprocAttr, -Int.reducePow, DD, c0, c1, ge_iff_le, w1, cs]))
theorem moved_r (A : Nat) (sh : Int) (hA : (lim A).length < 1000000) (hs : sh.natAbs ≤ 50000) : Sat CT false 144 [IA false (lim A), I64 sh] (.tup [WI (mvN A sh : Nat), Bo (decide (mvX A sh))]) := by
  by_cases h : 0 ≤ sh
  · have q := moved_up A sh.toNat hA (by omega)
    have e : ((sh.toNat : Nat) : Int) = sh := by omega
    have e2 : (-sh).toNat = 0 := by omega
    have f1 : mvN A sh = A * 2 ^ sh.toNat := by unfold mvN; rw [e2]; simp
    have f2 : decide (mvX A sh) = true := by apply decide_eq_true; show A % 2 ^ (-sh).toNat = 0; rw [e2]; simp [Nat.mod_one]
    rw [e, ← f1, ← f2] at q
    exact q
  · have q := moved_dn A (-sh).toNat hA (by omega) (by omega)
    have e : -(((-sh).toNat : Nat) : Int) = sh := by omega
    have e2 : sh.toNat = 0 := by omega
    have f1 : mvN A sh = A / 2 ^ (-sh).toNat := by unfold mvN; rw [e2]; simp
    rw [e, ← f1] at q
    exact q
theorem qroot_num {a P : Nat} {ex tx t sh : Int} (ha : a ≤ 21200) (hex : ex.natAbs ≤ 10600) (hP : P ≤ 4000) (htx : tx = (a : Nat) - 1 + ex) (ht : t = tx / 2) (hsh : sh = ex - 2 * (t - P + 1)) :
    IntKind.i64.wrap t = t ∧ IntKind.i64.wrap (t - P) = t - P ∧ IntKind.i64.wrap (t - P + 1) = t - P + 1 ∧ IntKind.i64.wrap (2 * (t - P + 1)) = 2 * (t - P + 1) ∧ IntKind.i64.wrap (ex - 2 * (t - P + 1)) = sh ∧
    sh.natAbs ≤ 50000 ∧ (t - P + 1).natAbs ≤ 1000000000 ∧ sh.toNat ≤ 50000 := by
  refine ⟨wrap_id (by omega), wrap_id (by omega), wrap_id (by omega), wrap_id (by omega), ?_, by omega, by omega, by omega⟩
  rw [wrap_id (by omega)]; omega
end Go.Ab

set_option linter.unusedVariables false
set_option linter.unusedSimpArgs false
set_option linter.unusedSectionVars false
namespace Go.Ab
open Go.Proofs
theorem cmpN_zero {x y : Nat} : cmpN x y = 0 ↔ x = y := by unfold cmpN; (repeat' split) <;> omega
section
variable {a b : AV} {x y : Dyadic} {B C : Nat}
set_option maxHeartbeats 2000000 in
theorem qroot_ok (ha : RD a x B) (hx : 0 < dnum x) (hB : B ≤ 10600) (p m : Int) : Sat CT false 99 [a, I64 p, I64 m] (.tup [DI (droot x (heldP p) (decide (m = 1))), I64 0]) := by
  refine sat_of quot_Root.ok (by simp) ?_
  have DD := quot_Root.dr
  simp only [drP, drPx, drPt, drR, drS, drT, bodyOf, Tryz.f99, Nat.reduceEqDiff, reduceIte, true_and, and_true] at DD
  have hB2 : B ≤ 20000 := Nat.le_trans hB (by decide)
  have n1 := dnorm_r ha hB2
  have s1 := dsign_r (RD_D ha.db) hB2
  have c1 : (dnum x).sign = 1 := Int.sign_eq_one_of_pos hx
  have q1 := held5_sat p
  obtain ⟨_, _, hP1, hP2⟩ := heldP_v p
  have hdx := ha.db
  obtain ⟨n', l', e', rfl, _⟩ := ha
  have x0 : x ≠ 0 := fun e => by rw [e] at hx; exact absurd hx (by decide)
  generalize hP : heldP p = P at *
  have t1 := dtop_r (RD_D hdx) hB2
  have hb : bl (dnum x).natAbs ≤ 21200 := Nat.le_trans (bl_B hdx) (Nat.mul_le_mul_left 2 hB)
  have hl : (lim (dnum x).natAbs).length ≤ 21200 / 32 + 1 := lim_bl hb
  have he := Nat.le_trans hdx.num.2 hB
  have haX := hdx.num.1
  obtain ⟨t, ht⟩ : ∃ t, t = dtop x / 2 := ⟨_, rfl⟩
  obtain ⟨sh, hsh⟩ : ∃ sh, sh = dexp x - 2 * (t - P + 1) := ⟨_, rfl⟩
  obtain ⟨w0, w1, w2, w3, w4, e1, e2, e3⟩ := qroot_num hb he hP2 (dtop_n0 x0) ht hsh
  have m1 := moved_r (dnum x).natAbs sh (le_lt hl (by decide)) e1
  have eI : IA false (lim (dnum x).natAbs) = WI (dnum x) := by unfold WI; rw [decide_eq_false (Int.not_lt.2 (Int.le_of_lt hx))]
  rw [eI] at m1
  have ht2 : (dtop x).fdiv (2 ^ 1) = t := by rw [ht]; exact Int.fdiv_eq_ediv_of_nonneg _ (by decide)
  obtain ⟨M, hM⟩ : ∃ M, M = mvN (dnum x).natAbs sh := ⟨_, rfl⟩
  have lM : (lim M).length ≤ 21200 / 32 + 1 + (50000 / 32 + 1) := by
    have z1 := Nat.le_trans (lim_shl_len (Lm_lim (dnum x).natAbs) hl sh.toNat) (Nat.add_le_add_left (Nat.add_le_add_right (Nat.div_le_div_right e3) 1) _)
    have := lim_nv_len (Lm_lim ((dnum x).natAbs * 2 ^ sh.toNat)) (by rw [nv_lim] at z1; exact z1) (x := M) (by rw [nv_lim, hM]; exact Nat.div_le_self _ _)
    exact this
  have hroot := droot_eq hx hP1 ht hsh (decide (m = 1))
  rw [← hM] at m1 hroot
  have r1 := root_sat (lim M) (Lm_lim _) (Nat.le_trans lM (by decide))
  rw [nv_lim] at r1
  have lr : (lim (isq M)).length ≤ 21200 / 32 + 1 + (50000 / 32 + 1) := lim_nv_len (Lm_lim M) lM (by rw [nv_lim]; exact isq_le M)
  have p1 := mul_sat (lim (isq M)) (lim (isq M)) (Lm_lim _) (Lm_lim _) (le_lt lr (by decide)) (le_lt lr (by decide))
  rw [nv_lim] at p1
  have lp := lim_mul_len lr lr
  have k1 := cmp_sat (lim (isq M * isq M)) (lim M) (Lm_lim _) (Lm_lim _) (le_lt lp (by decide)) (le_lt lM (by decide))
  rw [nv_lim, nv_lim] at k1
  have bM : Lt2 (isq M) 99999 := by
    have h1 := two_bound (z := dnum x) (j := sh.toNat) (m := 99999) haX (Nat.le_trans (Nat.add_le_add (Nat.mul_le_mul_left 2 hB) e3) (by decide))
    have h2 : (dnum x * 2 ^ sh.toNat).natAbs = (dnum x).natAbs * 2 ^ sh.toNat := by rw [Int.natAbs_mul, Int.natAbs_pow]; rfl
    unfold Lt2 at *
    rw [h2] at h1
    exact Nat.lt_of_le_of_lt (Nat.le_trans (isq_le M) (by rw [hM]; exact Nat.div_le_self _ _)) h1
  have td := fun ex => told_sat ((isq M : Nat) : Int) (t - P + 1) m ex bM (le_lt lr (by decide)) e2
  have eT : ∀ b : Bool, (if m = 1 ∧ b = false then (1 : Int) else 0) = if decide (m = 1) = true ∧ b = false then 1 else 0 := fun b => by simp only [decide_eq_true_eq]
  by_cases hx1 : mvX (dnum x).natAbs sh
  · rw [decide_eq_true hx1] at m1
    by_cases hx2 : isq M * isq M = M
    · have cx : cmpN (isq M * isq M) M = 0 := cmpN_eq hx2
      have tt := td true
      have hh : (if decide (m = 1) = true ∧ true = false then (1 : Int) else 0) = if decide (m = 1) = true ∧ ¬ (mvX (dnum x).natAbs sh ∧ isq M * isq M = M) then 1 else 0 := by rw [if_neg (fun q => absurd q.2 (by decide)), if_neg (fun q => q.2 ⟨hx1, hx2⟩)]
      rw [eT, hh, hroot] at tt
      simp -implicitDefEqProofs only [go_sem, simprocAttr, -Int.reducePow, Tryz.f99, DD, c1, w0, w1, w2, w3, w4, ht2, Int.natAbs_natCast, cx]
      refine callK_q dyad_Norm.call (n1) rfl rfl ?_
      simp -implicitDefEqProofs only [go_sem, simprocAttr, -Int.reducePow, DD, c1, w0, w1, w2, w3, w4, ht2, Int.natAbs_natCast, cx]
      refine callK_q dyad_Sign.call (s1) rfl rfl ?_
      simp -implicitDefEqProofs only [go_sem, simprocAttr, -Int.reducePow, DD, c1, w0, w1, w2, w3, w4, ht2, Int.natAbs_natCast, cx]
      refine callK_q dyad_Top.call (t1) rfl rfl ?_
      simp -implicitDefEqProofs only [go_sem, simprocAttr, -Int.reducePow, DD, c1, w0, w1, w2, w3, w4, ht2, Int.natAbs_natCast, cx]
      refine callK_q round_Held.call (q1) rfl rfl ?_
      simp -implicitDefEqProofs only [go_sem, simprocAttr, -Int.reducePow, DD, c1, w0, w1, w2, w3, w4, ht2, Int.natAbs_natCast, cx]
      refine callK_q quot_moved.call (m1) rfl rfl ?_
      simp -implicitDefEqProofs only [go_sem, simprocAttr, -Int.reducePow, DD, c1, w0, w1, w2, w3, w4, ht2, Int.natAbs_natCast, cx]
      refine callK_q nat_Root.call (r1) rfl rfl ?_
      simp -implicitDefEqProofs only [go_sem, simprocAttr, -Int.reducePow, DD, c1, w0, w1, w2, w3, w4, ht2, Int.natAbs_natCast, cx]
      refine callK_q nat_Mul.call (p1) rfl rfl ?_
      simp -implicitDefEqProofs only [go_sem, simprocAttr, -Int.reducePow, DD, c1, w0, w1, w2, w3, w4, ht2, Int.natAbs_natCast, cx]
      refine callK_q nat_Cmp.call (k1) rfl rfl ?_
      simp -implicitDefEqProofs only [go_sem, simprocAttr, -Int.reducePow, DD, c1, w0, w1, w2, w3, w4, ht2, Int.natAbs_natCast, cx]
      refine callK_q quot_told.call (tt) rfl rfl ?_
      simp -implicitDefEqProofs only [go_sem, simprocAttr, -Int.reducePow, DD, c1, w0, w1, w2, w3, w4, ht2, Int.natAbs_natCast, cx]
    · have cx : ¬ cmpN (isq M * isq M) M = 0 := fun q => hx2 (cmpN_zero.1 q)
      have tt := td false
      have hh : (if decide (m = 1) = true ∧ false = false then (1 : Int) else 0) = if decide (m = 1) = true ∧ ¬ (mvX (dnum x).natAbs sh ∧ isq M * isq M = M) then 1 else 0 := by simp only [hx2, and_false, not_false_eq_true, and_true]
      rw [eT, hh, hroot] at tt
      simp -implicitDefEqProofs only [go_sem, simprocAttr, -Int.reducePow, Tryz.f99, DD, c1, w0, w1, w2, w3, w4, ht2, Int.natAbs_natCast, cx]
      refine callK_q dyad_Norm.call (n1) rfl rfl ?_
      simp -implicitDefEqProofs only [go_sem, simprocAttr, -Int.reducePow, DD, c1, w0, w1, w2, w3, w4, ht2, Int.natAbs_natCast, cx]
      refine callK_q dyad_Sign.call (s1) rfl rfl ?_
      simp -implicitDefEqProofs only [go_sem, simprocAttr, -Int.reducePow, DD, c1, w0, w1, w2, w3, w4, ht2, Int.natAbs_natCast, cx]
      refine callK_q dyad_Top.call (t1) rfl rfl ?_
      simp -implicitDefEqProofs only [go_sem, simprocAttr, -Int.reducePow, DD, c1, w0, w1, w2, w3, w4, ht2, Int.natAbs_natCast, cx]
      refine callK_q round_Held.call (q1) rfl rfl ?_
      simp -implicitDefEqProofs only [go_sem, simprocAttr, -Int.reducePow, DD, c1, w0, w1, w2, w3, w4, ht2, Int.natAbs_natCast, cx]
      refine callK_q quot_moved.call (m1) rfl rfl ?_
      simp -implicitDefEqProofs only [go_sem, simprocAttr, -Int.reducePow, DD, c1, w0, w1, w2, w3, w4, ht2, Int.natAbs_natCast, cx]
      refine callK_q nat_Root.call (r1) rfl rfl ?_
      simp -implicitDefEqProofs only [go_sem, simprocAttr, -Int.reducePow, DD, c1, w0, w1, w2, w3, w4, ht2, Int.natAbs_natCast, cx]
      refine callK_q nat_Mul.call (p1) rfl rfl ?_
      simp -implicitDefEqProofs only [go_sem, simprocAttr, -Int.reducePow, DD, c1, w0, w1, w2, w3, w4, ht2, Int.natAbs_natCast, cx]
      refine callK_q nat_Cmp.call (k1) rfl rfl ?_
      simp -implicitDefEqProofs only [go_sem, simprocAttr, -Int.reducePow, DD, c1, w0, w1, w2, w3, w4, ht2, Int.natAbs_natCast, cx]
      refine callK_q quot_told.call (tt) rfl rfl ?_
      simp -implicitDefEqProofs only [go_sem, simprocAttr, -Int.reducePow, DD, c1, w0, w1, w2, w3, w4, ht2, Int.natAbs_natCast, cx]
  · rw [decide_eq_false hx1] at m1
    have cx : True := trivial
    have tt := td false
    have hh : (if decide (m = 1) = true ∧ false = false then (1 : Int) else 0) = if decide (m = 1) = true ∧ ¬ (mvX (dnum x).natAbs sh ∧ isq M * isq M = M) then 1 else 0 := by simp only [hx1, false_and, not_false_eq_true, and_true]
    rw [eT, hh, hroot] at tt
    simp -implicitDefEqProofs only [go_sem, simprocAttr, -Int.reducePow, Tryz.f99, DD, c1, w0, w1, w2, w3, w4, ht2, Int.natAbs_natCast, cx]
    refine callK_q dyad_Norm.call (n1) rfl rfl ?_
    simp -implicitDefEqProofs only [go_sem, simprocAttr, -Int.reducePow, DD, c1, w0, w1, w2, w3, w4, ht2, Int.natAbs_natCast, cx]
    refine callK_q dyad_Sign.call (s1) rfl rfl ?_
    simp -implicitDefEqProofs only [go_sem, simprocAttr, -Int.reducePow, DD, c1, w0, w1, w2, w3, w4, ht2, Int.natAbs_natCast, cx]
    refine callK_q dyad_Top.call (t1) rfl rfl ?_
    simp -implicitDefEqProofs only [go_sem, simprocAttr, -Int.reducePow, DD, c1, w0, w1, w2, w3, w4, ht2, Int.natAbs_natCast, cx]
    refine callK_q round_Held.call (q1) rfl rfl ?_
    simp -implicitDefEqProofs only [go_sem, simprocAttr, -Int.reducePow, DD, c1, w0, w1, w2, w3, w4, ht2, Int.natAbs_natCast, cx]
    refine callK_q quot_moved.call (m1) rfl rfl ?_
    simp -implicitDefEqProofs only [go_sem, simprocAttr, -Int.reducePow, DD, c1, w0, w1, w2, w3, w4, ht2, Int.natAbs_natCast, cx]
    refine callK_q nat_Root.call (r1) rfl rfl ?_
    simp -implicitDefEqProofs only [go_sem, simprocAttr, -Int.reducePow, DD, c1, w0, w1, w2, w3, w4, ht2, Int.natAbs_natCast, cx]
    refine callK_q quot_told.call (tt) rfl rfl ?_
    simp -implicitDefEqProofs only [go_sem, simprocAttr, -Int.reducePow, DD, c1, w0, w1, w2, w3, w4, ht2, Int.natAbs_natCast, cx]
end
end Go.Ab

set_option linter.unusedVariables false
set_option linter.unusedSimpArgs false
set_option linter.unusedSectionVars false
namespace Go.Ab
open Go.Proofs

theorem rroot_num {a P n0 n m : Nat} {ex : Int} (ha : a ≤ 21200) (hex : ex.natAbs ≤ 10600) (hP : P ≤ 400) (h0 : n0 = 2 * P + 6 - a) (hn : n = if (ex - (2 * P + 6 - a : Nat)) % 2 = 0 then 2 * P + 6 - a else 2 * P + 6 - a + 1) (hm : m ≤ (a + n + 1) / 2 + 1) :
    IntKind.i64.wrap (2 * (P : Int)) = ((2 * P : Nat) : Int) ∧ IntKind.i64.wrap (((2 * P : Nat) : Int) + 6) = ((2 * P + 6 : Nat) : Int) ∧ IntKind.i64.wrap (((2 * P + 6 : Nat) : Int) - (a : Nat)) = ((2 * P + 6 : Nat) : Int) - (a : Nat) ∧
    max 0 (((2 * P + 6 : Nat) : Int) - (a : Nat)) = (n0 : Int) ∧ IntKind.i64.wrap (ex - (n0 : Nat)) = ex - (n0 : Nat) ∧ IntKind.i64.wrap ((n0 : Int) + 1) = ((n0 + 1 : Nat) : Int) ∧ IntKind.i64.wrap (ex - (n : Nat)) = ex - (n : Nat) ∧
    (n = n0 ∧ (ex - (n0 : Nat)).tmod 2 = 0 ∨ n = n0 + 1 ∧ ¬ (ex - (n0 : Nat)).tmod 2 = 0) ∧ (ex - (n : Nat)).tdiv 2 = (ex - n) / 2 ∧ IntKind.i64.wrap ((ex - n) / 2 - 1) = (ex - n) / 2 - 1 ∧
    n ≤ 810 ∧ m ≤ 11010 ∧ ((ex - n) / 2 - 1).natAbs ≤ 6000 ∧ IntKind.i64.wrap ((ex - n) / 2) = (ex - n) / 2 := by
  have e2 : (ex - (n : Nat)).tdiv 2 = (ex - n) / 2 := by
    refine Int.tdiv_eq_ediv_of_dvd ?_
    split at hn <;> omega
  have e1 : ∀ z : Int, z.tmod 2 = 0 ↔ z % 2 = 0 := fun z => ⟨fun q => Int.emod_eq_zero_of_dvd (Int.dvd_of_tmod_eq_zero q), fun q => Int.tmod_eq_zero_of_dvd (Int.dvd_of_emod_eq_zero q)⟩
  refine ⟨?_, ?_, wrap_id (by omega), by omega, wrap_id (by omega), ?_, wrap_id (by split at hn <;> omega), ?_, e2, wrap_id (by split at hn <;> omega), by split at hn <;> omega, by split at hn <;> omega, by split at hn <;> omega, wrap_id (by split at hn <;> omega)⟩
  · rw [wrap_id (by omega)]; omega
  · rw [wrap_id (by omega)]; omega
  · rw [wrap_id (by omega)]; omega
  · rw [e1]
    split at hn
    · exact .inl ⟨by omega, by omega⟩
    · exact .inr ⟨by omega, by omega⟩
theorem rsticky_bl {A : Nat} (h : A ≠ 0) (n : Nat) : bl (rsticky (A * 2 ^ n)) ≤ (bl A + n + 1) / 2 + 1 := by
  rw [bl_rsticky (Nat.mul_ne_zero h (Nat.ne_of_gt (Nat.two_pow_pos _))), bl_up h]; omega
theorem rsticky_0 {X : Nat} (h : isq X * isq X = X) : isq X * 2 = rsticky X := by unfold rsticky; rw [if_pos h]; omega
theorem rsticky_1 {X : Nat} (h : ¬ isq X * isq X = X) : isq X * 2 + 1 = rsticky X := by unfold rsticky; rw [if_neg h]; omega
section
variable {a b : AV} {x y : Dyadic} {B C : Nat}
set_option maxHeartbeats 2000000 in
theorem rroot4_ok (hx : DB x B) (h0 : 0 < dnum x) (hbx : bl (dnum x).natAbs ≤ 21200) (hex : (dexp x).natAbs ≤ 10600) (hB : B ≤ 20000)
    (p m : Int) (hp : heldP p ≤ 400) : Sat CT false 100 [DI x, I64 p, I64 m] (.tup [DI (droot x (heldP p) (decide (m = 1))), I64 0]) := by
  refine sat_of annulusref4_Root.ok (by simp) ?_
  have DD := annulusref4_Root.dr
  simp only [drP, drPx, drPt, drR, drS, drT, bodyOf, Tryz.f100, Nat.reduceEqDiff, reduceIte, true_and, and_true] at DD
  have s1 := rsign4_r (RD_D hx) hB
  have c1 : (dnum x).sign = 1 := Int.sign_eq_one_of_pos h0
  obtain ⟨_, hP, hP1, _⟩ := heldP_v p
  have hs := side_sat m
  have to0 := fun (d : Dyadic) (D : Nat) (hd' : DB d D) (hD : D ≤ 20000) (hn : d ≠ 0) => rto_sat hd' hD (heldP p : Nat) _ (m01 m) hn
  simp only [m01d, heldP_held] at to0
  generalize (if m = 1 then (1 : Int) else 0) = mm at *
  generalize heldP p = P at *
  have lx : (lim (dnum x).natAbs).length ≤ 21200 / 32 + 1 := lim_bl hbx
  have b2 := rbits_sat (lim (dnum x).natAbs) (Lm_lim _) (le_lt lx (by decide))
  rw [nv_lim] at b2
  obtain ⟨n, hn⟩ : ∃ n, n = rbitsN (dnum x).natAbs P (dexp x) := ⟨_, rfl⟩
  obtain ⟨n0, hn0⟩ : ∃ n0, n0 = 2 * P + 6 - bl (dnum x).natAbs := ⟨_, rfl⟩
  obtain ⟨mq, hmq⟩ : ∃ mq, mq = rsticky ((dnum x).natAbs * 2 ^ n) := ⟨_, rfl⟩
  obtain ⟨f1, f2, f3, f4⟩ := droot_to (m := mq) h0 hP1 (decide (m = 1)) (by rw [← hn]; exact hmq) rfl
  rw [← hn] at f1 f2 f4
  obtain ⟨w1, w2, w3, w4, w5, w6, w7, hc, w8, w9, n1, n3, n2, w10⟩ := rroot_num (n := n) (m := bl mq) hbx hex hp hn0 (by rw [hn]; rfl) (by rw [hmq]; exact rsticky_bl (by omega) n)
  have q1 := rshl_sat (lim (dnum x).natAbs) (n : Int) (Lm_lim _) (le_lt lx (by decide))
  rw [nv_lim, shN_nat (k := n) (Nat.le_trans n1 (by decide)) rfl] at q1
  have z1 := Nat.le_trans (lim_shl_len (Lm_lim (dnum x).natAbs) lx n) (Nat.add_le_add_left (Nat.add_le_add_right (Nat.div_le_div_right n1) 1) _)
  rw [nv_lim] at z1
  have r1 := rroot_sat (lim ((dnum x).natAbs * 2 ^ n)) (Lm_lim _) (Nat.le_trans z1 (by decide))
  rw [nv_lim] at r1
  have lr := lim_nv_len (Lm_lim ((dnum x).natAbs * 2 ^ n)) z1 (x := isq ((dnum x).natAbs * 2 ^ n)) (by rw [nv_lim]; exact isq_le _)
  have p1 := rmul_sat (lim (isq ((dnum x).natAbs * 2 ^ n))) (lim (isq ((dnum x).natAbs * 2 ^ n))) (Lm_lim _) (Lm_lim _) (le_lt lr (by decide)) (le_lt lr (by decide))
  rw [nv_lim] at p1
  have lp := lim_mul_len lr lr
  have k1 := rcmp_sat (lim (isq ((dnum x).natAbs * 2 ^ n) * isq ((dnum x).natAbs * 2 ^ n))) (lim ((dnum x).natAbs * 2 ^ n)) (Lm_lim _) (Lm_lim _) (le_lt lp (by decide)) (le_lt z1 (by decide))
  rw [nv_lim, nv_lim] at k1
  have lm : (lim mq).length ≤ 11010 / 32 + 1 := lim_bl n3
  have lt : Lt2 mq 11010 := lt2_bl n3
  have dq : DB (dv (mq : Int) ((dexp x - n) / 2 - 1)) 17100 := DB.sg (s := false) (L := 11010) (K := 6000) lt n2 (by decide)
  have x1 := exact_sat false (lim mq) ((dexp x - n) / 2 - 1) (Lm_lim _) (le_lt lm (by decide)) (lt2_lim lt (by decide)) (Nat.le_trans n2 (by decide))
  rw [iv_sg] at x1
  have t1 := to0 _ _ dq (by decide) f2
  rw [f1] at t1
  have q3 := rshl_sat (lim (isq ((dnum x).natAbs * 2 ^ n))) 1 (Lm_lim _) (le_lt lr (by decide))
  rw [nv_lim, show shN 1 = 1 from rfl, Nat.pow_one] at q3
  have z3 := lim_shl_len (Lm_lim (isq ((dnum x).natAbs * 2 ^ n))) lr 1
  rw [nv_lim, Nat.pow_one] at z3
  have q4 := radd_sat (lim (isq ((dnum x).natAbs * 2 ^ n) * 2)) [1] (Lm_lim _) limit_1 (le_lt z3 (by decide)) (by decide)
  rw [nv_lim, nv_one] at q4
  simp only [sg, Bool.false_eq_true, if_false] at x1
  clear z1 z3 to0 dq lt lm f1 f2 f3 f4 n1 n2 n3 hbx hex hB hx lx hP1 hp lp lr
  rcases hc with ⟨c3, hc⟩ | ⟨c3, hc⟩
  · subst c3
    have c3 : True := trivial
    by_cases hr : isq ((dnum x).natAbs * 2 ^ n) * isq ((dnum x).natAbs * 2 ^ n) = (dnum x).natAbs * 2 ^ n
    · have cx := cmpN_eq hr
      rw [rsticky_0 hr, ← hmq] at q3
      simp -implicitDefEqProofs only [go_sem, simprocAttr, -Int.reducePow, Tryz.f100, DD, c1, c3, hc, cx, hP, w1, w2, w3, w4, w5, w6, w7, w8, w9, w10]
      refine callK_q annulusref4_Sign.call (s1) rfl rfl ?_
      simp -implicitDefEqProofs only [go_sem, simprocAttr, -Int.reducePow, DD, c1, c3, hc, cx, hP, w1, w2, w3, w4, w5, w6, w7, w8, w9, w10]
      refine callK_q annulusref4_Sign.call (s1) rfl rfl ?_
      simp -implicitDefEqProofs only [go_sem, simprocAttr, -Int.reducePow, DD, c1, c3, hc, cx, hP, w1, w2, w3, w4, w5, w6, w7, w8, w9, w10]
      refine callK_q annulusref1_Bits.call (b2) rfl rfl ?_
      simp -implicitDefEqProofs only [go_sem, simprocAttr, -Int.reducePow, DD, c1, c3, hc, cx, hP, w1, w2, w3, w4, w5, w6, w7, w8, w9, w10]
      refine callK_q annulusref1_Shl.call (q1) rfl rfl ?_
      simp -implicitDefEqProofs only [go_sem, simprocAttr, -Int.reducePow, DD, c1, c3, hc, cx, hP, w1, w2, w3, w4, w5, w6, w7, w8, w9, w10]
      refine callK_q annulusref1_Root.call (r1) rfl rfl ?_
      simp -implicitDefEqProofs only [go_sem, simprocAttr, -Int.reducePow, DD, c1, c3, hc, cx, hP, w1, w2, w3, w4, w5, w6, w7, w8, w9, w10]
      refine callK_q annulusref1_Mul.call (p1) rfl rfl ?_
      simp -implicitDefEqProofs only [go_sem, simprocAttr, -Int.reducePow, DD, c1, c3, hc, cx, hP, w1, w2, w3, w4, w5, w6, w7, w8, w9, w10]
      refine callK_q annulusref1_Cmp.call (k1) rfl rfl ?_
      simp -implicitDefEqProofs only [go_sem, simprocAttr, -Int.reducePow, DD, c1, c3, hc, cx, hP, w1, w2, w3, w4, w5, w6, w7, w8, w9, w10]
      refine callK_q annulusref1_Shl.call (q3) rfl rfl ?_
      simp -implicitDefEqProofs only [go_sem, simprocAttr, -Int.reducePow, DD, c1, c3, hc, cx, hP, w1, w2, w3, w4, w5, w6, w7, w8, w9, w10]
      refine callK_q annulusref4_exact.call (x1) rfl rfl ?_
      simp -implicitDefEqProofs only [go_sem, simprocAttr, -Int.reducePow, DD, c1, c3, hc, cx, hP, w1, w2, w3, w4, w5, w6, w7, w8, w9, w10]
      refine callK_q annulusref4_side.call (hs) rfl rfl ?_
      simp -implicitDefEqProofs only [go_sem, simprocAttr, -Int.reducePow, DD, c1, c3, hc, cx, hP, w1, w2, w3, w4, w5, w6, w7, w8, w9, w10]
      refine callK_q annulusref4_To.call (t1) rfl rfl ?_
      simp -implicitDefEqProofs only [go_sem, simprocAttr, -Int.reducePow, DD, c1, c3, hc, cx, hP, w1, w2, w3, w4, w5, w6, w7, w8, w9, w10]
    · have cx : ¬ cmpN (isq ((dnum x).natAbs * 2 ^ n) * isq ((dnum x).natAbs * 2 ^ n)) ((dnum x).natAbs * 2 ^ n) = 0 := fun q => hr (cmpN_zero.1 q)
      rw [rsticky_1 hr, ← hmq] at q4
      simp -implicitDefEqProofs only [go_sem, simprocAttr, -Int.reducePow, Tryz.f100, DD, c1, c3, hc, cx, hP, w1, w2, w3, w4, w5, w6, w7, w8, w9, w10]
      refine callK_q annulusref4_Sign.call (s1) rfl rfl ?_
      simp -implicitDefEqProofs only [go_sem, simprocAttr, -Int.reducePow, DD, c1, c3, hc, cx, hP, w1, w2, w3, w4, w5, w6, w7, w8, w9, w10]
      refine callK_q annulusref4_Sign.call (s1) rfl rfl ?_
      simp -implicitDefEqProofs only [go_sem, simprocAttr, -Int.reducePow, DD, c1, c3, hc, cx, hP, w1, w2, w3, w4, w5, w6, w7, w8, w9, w10]
      refine callK_q annulusref1_Bits.call (b2) rfl rfl ?_
      simp -implicitDefEqProofs only [go_sem, simprocAttr, -Int.reducePow, DD, c1, c3, hc, cx, hP, w1, w2, w3, w4, w5, w6, w7, w8, w9, w10]
      refine callK_q annulusref1_Shl.call (q1) rfl rfl ?_
      simp -implicitDefEqProofs only [go_sem, simprocAttr, -Int.reducePow, DD, c1, c3, hc, cx, hP, w1, w2, w3, w4, w5, w6, w7, w8, w9, w10]
      refine callK_q annulusref1_Root.call (r1) rfl rfl ?_
      simp -implicitDefEqProofs only [go_sem, simprocAttr, -Int.reducePow, DD, c1, c3, hc, cx, hP, w1, w2, w3, w4, w5, w6, w7, w8, w9, w10]
      refine callK_q annulusref1_Mul.call (p1) rfl rfl ?_
      simp -implicitDefEqProofs only [go_sem, simprocAttr, -Int.reducePow, DD, c1, c3, hc, cx, hP, w1, w2, w3, w4, w5, w6, w7, w8, w9, w10]
      refine callK_q annulusref1_Cmp.call (k1) rfl rfl ?_
      simp -implicitDefEqProofs only [go_sem, simprocAttr, -Int.reducePow, DD, c1, c3, hc, cx, hP, w1, w2, w3, w4, w5, w6, w7, w8, w9, w10]
      refine callK_q annulusref1_Shl.call (q3) rfl rfl ?_
      simp -implicitDefEqProofs only [go_sem, simprocAttr, -Int.reducePow, DD, c1, c3, hc, cx, hP, w1, w2, w3, w4, w5, w6, w7, w8, w9, w10]
      refine callK_q annulusref1_Add.call (q4) rfl rfl ?_
      simp -implicitDefEqProofs only [go_sem, simprocAttr, -Int.reducePow, DD, c1, c3, hc, cx, hP, w1, w2, w3, w4, w5, w6, w7, w8, w9, w10]
      refine callK_q annulusref4_exact.call (x1) rfl rfl ?_
      simp -implicitDefEqProofs only [go_sem, simprocAttr, -Int.reducePow, DD, c1, c3, hc, cx, hP, w1, w2, w3, w4, w5, w6, w7, w8, w9, w10]
      refine callK_q annulusref4_side.call (hs) rfl rfl ?_
      simp -implicitDefEqProofs only [go_sem, simprocAttr, -Int.reducePow, DD, c1, c3, hc, cx, hP, w1, w2, w3, w4, w5, w6, w7, w8, w9, w10]
      refine callK_q annulusref4_To.call (t1) rfl rfl ?_
      simp -implicitDefEqProofs only [go_sem, simprocAttr, -Int.reducePow, DD, c1, c3, hc, cx, hP, w1, w2, w3, w4, w5, w6, w7, w8, w9, w10]
  · subst c3
    have c3 : True := trivial
    by_cases hr : isq ((dnum x).natAbs * 2 ^ (n0 + 1)) * isq ((dnum x).natAbs * 2 ^ (n0 + 1)) = (dnum x).natAbs * 2 ^ (n0 + 1)
    · have cx := cmpN_eq hr
      rw [rsticky_0 hr, ← hmq] at q3
      simp -implicitDefEqProofs only [go_sem, simprocAttr, -Int.reducePow, Tryz.f100, DD, c1, c3, hc, cx, hP, w1, w2, w3, w4, w5, w6, w7, w8, w9, w10]
      refine callK_q annulusref4_Sign.call (s1) rfl rfl ?_
      simp -implicitDefEqProofs only [go_sem, simprocAttr, -Int.reducePow, DD, c1, c3, hc, cx, hP, w1, w2, w3, w4, w5, w6, w7, w8, w9, w10]
      refine callK_q annulusref4_Sign.call (s1) rfl rfl ?_
      simp -implicitDefEqProofs only [go_sem, simprocAttr, -Int.reducePow, DD, c1, c3, hc, cx, hP, w1, w2, w3, w4, w5, w6, w7, w8, w9, w10]
      refine callK_q annulusref1_Bits.call (b2) rfl rfl ?_
      simp -implicitDefEqProofs only [go_sem, simprocAttr, -Int.reducePow, DD, c1, c3, hc, cx, hP, w1, w2, w3, w4, w5, w6, w7, w8, w9, w10]
      refine callK_q annulusref1_Shl.call (q1) rfl rfl ?_
      simp -implicitDefEqProofs only [go_sem, simprocAttr, -Int.reducePow, DD, c1, c3, hc, cx, hP, w1, w2, w3, w4, w5, w6, w7, w8, w9, w10]
      refine callK_q annulusref1_Root.call (r1) rfl rfl ?_
      simp -implicitDefEqProofs only [go_sem, simprocAttr, -Int.reducePow, DD, c1, c3, hc, cx, hP, w1, w2, w3, w4, w5, w6, w7, w8, w9, w10]
      refine callK_q annulusref1_Mul.call (p1) rfl rfl ?_
      simp -implicitDefEqProofs only [go_sem, simprocAttr, -Int.reducePow, DD, c1, c3, hc, cx, hP, w1, w2, w3, w4, w5, w6, w7, w8, w9, w10]
      refine callK_q annulusref1_Cmp.call (k1) rfl rfl ?_
      simp -implicitDefEqProofs only [go_sem, simprocAttr, -Int.reducePow, DD, c1, c3, hc, cx, hP, w1, w2, w3, w4, w5, w6, w7, w8, w9, w10]
      refine callK_q annulusref1_Shl.call (q3) rfl rfl ?_
      simp -implicitDefEqProofs only [go_sem, simprocAttr, -Int.reducePow, DD, c1, c3, hc, cx, hP, w1, w2, w3, w4, w5, w6, w7, w8, w9, w10]
      refine callK_q annulusref4_exact.call (x1) rfl rfl ?_
      simp -implicitDefEqProofs only [go_sem, simprocAttr, -Int.reducePow, DD, c1, c3, hc, cx, hP, w1, w2, w3, w4, w5, w6, w7, w8, w9, w10]
      refine callK_q annulusref4_side.call (hs) rfl rfl ?_
      simp -implicitDefEqProofs only [go_sem, simprocAttr, -Int.reducePow, DD, c1, c3, hc, cx, hP, w1, w2, w3, w4, w5, w6, w7, w8, w9, w10]
      refine callK_q annulusref4_To.call (t1) rfl rfl ?_
      simp -implicitDefEqProofs only [go_sem, simprocAttr, -Int.reducePow, DD, c1, c3, hc, cx, hP, w1, w2, w3, w4, w5, w6, w7, w8, w9, w10]
    · have cx : ¬ cmpN (isq ((dnum x).natAbs * 2 ^ (n0 + 1)) * isq ((dnum x).natAbs * 2 ^ (n0 + 1))) ((dnum x).natAbs * 2 ^ (n0 + 1)) = 0 := fun q => hr (cmpN_zero.1 q)
      rw [rsticky_1 hr, ← hmq] at q4
      simp -implicitDefEqProofs only [go_sem, simprocAttr, -Int.reducePow, Tryz.f100, DD, c1, c3, hc, cx, hP, w1, w2, w3, w4, w5, w6, w7, w8, w9, w10]
      refine callK_q annulusref4_Sign.call (s1) rfl rfl ?_
      simp -implicitDefEqProofs only [go_sem, simprocAttr, -Int.reducePow, DD, c1, c3, hc, cx, hP, w1, w2, w3, w4, w5, w6, w7, w8, w9, w10]
      refine callK_q annulusref4_Sign.call (s1) rfl rfl ?_
      simp -implicitDefEqProofs only [go_sem, simprocAttr, -Int.reducePow, DD, c1, c3, hc, cx, hP, w1, w2, w3, w4, w5, w6, w7, w8, w9, w10]
      refine callK_q annulusref1_Bits.call (b2) rfl rfl ?_
      simp -implicitDefEqProofs only [go_sem, simprocAttr, -Int.reducePow, DD, c1, c3, hc, cx, hP, w1, w2, w3, w4, w5, w6, w7, w8, w9, w10]
      refine callK_q annulusref1_Shl.call (q1) rfl rfl ?_
      simp -implicitDefEqProofs only [go_sem, simprocAttr, -Int.reducePow, DD, c1, c3, hc, cx, hP, w1, w2, w3, w4, w5, w6, w7, w8, w9, w10]
      refine callK_q annulusref1_Root.call (r1) rfl rfl ?_
      simp -implicitDefEqProofs only [go_sem, simprocAttr, -Int.reducePow, DD, c1, c3, hc, cx, hP, w1, w2, w3, w4, w5, w6, w7, w8, w9, w10]
      refine callK_q annulusref1_Mul.call (p1) rfl rfl ?_
      simp -implicitDefEqProofs only [go_sem, simprocAttr, -Int.reducePow, DD, c1, c3, hc, cx, hP, w1, w2, w3, w4, w5, w6, w7, w8, w9, w10]
      refine callK_q annulusref1_Cmp.call (k1) rfl rfl ?_
      simp -implicitDefEqProofs only [go_sem, simprocAttr, -Int.reducePow, DD, c1, c3, hc, cx, hP, w1, w2, w3, w4, w5, w6, w7, w8, w9, w10]
      refine callK_q annulusref1_Shl.call (q3) rfl rfl ?_
      simp -implicitDefEqProofs only [go_sem, simprocAttr, -Int.reducePow, DD, c1, c3, hc, cx, hP, w1, w2, w3, w4, w5, w6, w7, w8, w9, w10]
      refine callK_q annulusref1_Add.call (q4) rfl rfl ?_
      simp -implicitDefEqProofs only [go_sem, simprocAttr, -Int.reducePow, DD, c1, c3, hc, cx, hP, w1, w2, w3, w4, w5, w6, w7, w8, w9, w10]
      refine callK_q annulusref4_exact.call (x1) rfl rfl ?_
      simp -implicitDefEqProofs only [go_sem, simprocAttr, -Int.reducePow, DD, c1, c3, hc, cx, hP, w1, w2, w3, w4, w5, w6, w7, w8, w9, w10]
      refine callK_q annulusref4_side.call (hs) rfl rfl ?_
      simp -implicitDefEqProofs only [go_sem, simprocAttr, -Int.reducePow, DD, c1, c3, hc, cx, hP, w1, w2, w3, w4, w5, w6, w7, w8, w9, w10]
      refine callK_q annulusref4_To.call (t1) rfl rfl ?_
      simp -implicitDefEqProofs only [go_sem, simprocAttr, -Int.reducePow, DD, c1, c3, hc, cx, hP, w1, w2, w3, w4, w5, w6, w7, w8, w9, w10]
end
end Go.Ab

set_option linter.unusedVariables false
set_option linter.unusedSimpArgs false
set_option linter.unusedSectionVars false
namespace Go.Ab
open Go.Proofs

theorem dn0 : dnum 0 = 0 := rfl
theorem de0 : dexp 0 = 0 := rfl
theorem dnum_split {m : Int} (h : m ≠ 0) (e : Int) : ∃ (o : Int) (z : Nat), m = o * 2 ^ z ∧ dnum (dv m e) = o ∧ dexp (dv m e) = e + z := by
  obtain ⟨o, z, h1, h2⟩ := odd_part h
  refine ⟨o, z, h1, ?_, ?_⟩
  · rw [h1, dv_shift, dnum_odd h2]
  · rw [h1, dv_shift, dexp_odd h2]
theorem dnum_sign (m e : Int) : (dnum (dv m e)).sign = m.sign := by
  by_cases h : m = 0
  · rw [h]; rfl
  · obtain ⟨o, z, h1, h2, _⟩ := dnum_split h e
    rw [h2, h1, Int.sign_mul, show ((2 : Int) ^ z).sign = 1 from Int.sign_eq_one_of_pos (Int.pow_pos (by decide)), Int.mul_one]
theorem dnum_lt {m e : Int} : dnum (dv m e) < 0 ↔ m < 0 := by rw [← Int.sign_eq_neg_one_iff_neg, dnum_sign, Int.sign_eq_neg_one_iff_neg]
theorem dnum_pos {m e : Int} : 0 < dnum (dv m e) ↔ 0 < m := by rw [← Int.sign_eq_one_iff_pos, dnum_sign, Int.sign_eq_one_iff_pos]
theorem bl_dnum {m e : Int} (h : m ≠ 0) : (bl (dnum (dv m e)).natAbs : Int) + dexp (dv m e) = bl m.natAbs + e ∧ e ≤ dexp (dv m e) := by
  obtain ⟨o, z, h1, h2, h3⟩ := dnum_split h e
  have ho : o.natAbs ≠ 0 := fun q => h (by rw [h1, Int.natAbs_eq_zero.1 q, Int.zero_mul])
  have : m.natAbs = o.natAbs * 2 ^ z := by rw [h1, Int.natAbs_mul, Int.natAbs_pow]; rfl
  rw [h2, h3, this, bl_up ho]
  omega
/-- what few lets in -/
def Few (x : Dyadic) (L E : Nat) : Prop := bl (dnum x).natAbs ≤ L ∧ (dexp x).natAbs ≤ E + L
theorem Few.of {m e : Int} {L E : Nat} (hm : bl m.natAbs ≤ L) (he : e.natAbs ≤ E) : Few (dv m e) L E := by
  by_cases h : m = 0
  · rw [h]; exact ⟨by show bl (0 : Int).natAbs ≤ L; rw [show (0 : Int).natAbs = 0 from rfl, bl_zero]; omega, by show (0 : Int).natAbs ≤ _; simp⟩
  · obtain ⟨h1, h2⟩ := bl_dnum (e := e) h
    exact ⟨by omega, by omega⟩
theorem rd0 : RD (DA false [] 0) 0 0 := by rw [← DI_0]; exact RD_D (DB.zero 0)
/-- nought as it is told in a row of results -/
def QZ : AV := .agg [Bo false, .v (.slice none 0 0), I64 0]
section
variable {a b : AV} {x y : Dyadic} {B C : Nat}
theorem dcmp_r (ha : RD a x B) (hb : RD b y C) (hB : B ≤ 19000) (hC : C ≤ 19000) : Sat CT false 68 [a, b] (I64 (dnum (x - y)).sign) := by
  refine sat_of dyad_Cmp.ok (by simp) ?_
  have DD := dyad_Cmp.dr
  simp only [drP, drPx, drPt, drR, drS, drT, bodyOf, Tryz.f68, Nat.reduceEqDiff, reduceIte, true_and, and_true] at DD
  have q1 := dsub_r ha hb (Nat.le_trans hB (by decide)) (Nat.le_trans hC (by decide))
  have q2 := dsign_r (RD_D ((ha.db.mono (Nat.le_max_left B C)).sub (hb.db.mono (Nat.le_max_right B C)))) (by omega)
  obtain ⟨n, l, e, rfl, _⟩ := ha
  obtain ⟨n', l', e', rfl, _⟩ := hb
  simp -implicitDefEqProofs only [go_sem, simprocAttr, -Int.reducePow, Tryz.f68, DD]
  refine callK_q dyad_Sub.call (q1) rfl rfl ?_
  simp -implicitDefEqProofs only [go_sem, simprocAttr, -Int.reducePow, DD]
  refine callK_q dyad_Sign.call (q2) rfl rfl ?_
  simp -implicitDefEqProofs only [go_sem, simprocAttr, -Int.reducePow, DD]
theorem sign_sub (x y : Dyadic) : decide ((dnum (x - y)).sign = 0) = decide (x = y) := by
  congr 1
  refine propext ⟨fun h => ?_, fun h => ?_⟩
  · have := dnum_zero.1 (Int.sign_eq_zero_iff_zero.1 h)
    grind
  · rw [h, show y - y = 0 by grind]; rfl
theorem dsame_r (ha : RD a x B) (hb : RD b y C) (hB : B ≤ 19000) (hC : C ≤ 19000) : Sat CT false 103 [a, b] (Bo (decide (x = y))) := by
  refine sat_of dyad_Same.ok (by simp) ?_
  have DD := dyad_Same.dr
  simp only [drP, drPx, drPt, drR, drS, drT, bodyOf, Tryz.f103, Nat.reduceEqDiff, reduceIte, true_and, and_true] at DD
  have q1 := dcmp_r ha hb hB hC
  obtain ⟨n, l, e, rfl, _⟩ := ha
  obtain ⟨n', l', e', rfl, _⟩ := hb
  rw [← sign_sub]
  simp -implicitDefEqProofs only [go_sem, simprocAttr, -Int.reducePow, Tryz.f103, DD]
  refine callK_q dyad_Cmp.call (q1) rfl rfl ?_
  simp -implicitDefEqProofs only [go_sem, simprocAttr, -Int.reducePow, DD]
/-- without its sign -/
def dab (x : Dyadic) : Dyadic := if dnum x < 0 then -x else x
theorem dabs_r (ha : RD a x B) (hB : B ≤ 10000) : Sat CT false 184 [a] (DI (dab x)) := by
  refine sat_of dyad_Abs.ok (by simp) ?_
  have DD := dyad_Abs.dr
  simp only [drP, drPx, drPt, drR, drS, drT, bodyOf, Tryz.f184, Nat.reduceEqDiff, reduceIte, true_and, and_true] at DD
  obtain ⟨n, l, e, rfl, hl, hv, hk, hn, he, hD⟩ := ha
  have q1 := kept_sat e (by omega)
  have q2 := raw_sat false l e hl (by omega) (pow2_lt (k := 2 * B) hk (by omega)) (by omega)
  have e1 : dv (iv false l) e = dab x := by
    unfold dab
    rw [← hv]
    cases n
    · have : ¬ dnum (dv (iv false l) e) < 0 := by rw [dnum_lt]; unfold iv; simp
      rw [if_neg this]
    · by_cases h0 : nv l = 0
      · have : ¬ dnum (dv (iv true l) e) < 0 := by rw [dnum_lt]; unfold iv; simp [h0]
        rw [if_neg this]
        unfold iv; simp [h0]
      · have : dnum (dv (iv true l) e) < 0 := by rw [dnum_lt]; unfold iv; simp; omega
        rw [if_pos this, dv_neg]
        unfold iv; simp
  rw [e1] at q2
  simp -implicitDefEqProofs only [go_sem, simprocAttr, -Int.reducePow, Tryz.f184, DD]
  refine callK_q dyad_kept.call (q1) rfl rfl ?_
  simp -implicitDefEqProofs only [go_sem, simprocAttr, -Int.reducePow, DD]
  refine callK_q dyad_Raw.call (q2) rfl rfl ?_
  simp -implicitDefEqProofs only [go_sem, simprocAttr, -Int.reducePow, DD]
theorem qroot_n (ha : RD a x B) (hx : dnum x ≤ 0) (hB : B ≤ 10600) (p m : Int) : Sat CT false 99 [a, I64 p, I64 m] (.tup [QZ, I64 (if dnum x = 0 then 0 else 12)]) := by
  refine sat_of quot_Root.ok (by simp) ?_
  have DD := quot_Root.dr
  simp only [drP, drPx, drPt, drR, drS, drT, bodyOf, Tryz.f99, Nat.reduceEqDiff, reduceIte, true_and, and_true] at DD
  have n1 := dnorm_r ha (by omega)
  have s1 := dsign_r (RD_D ha.db) (by omega)
  obtain ⟨n', l', e', rfl, _⟩ := ha
  by_cases h0 : dnum x = 0
  · have c1 : (dnum x).sign = 0 := by rw [h0]; rfl
    rw [if_pos h0]
    simp -implicitDefEqProofs only [go_sem, simprocAttr, -Int.reducePow, Tryz.f99, DD, c1]
    refine callK_q dyad_Norm.call (n1) rfl rfl ?_
    simp -implicitDefEqProofs only [go_sem, simprocAttr, -Int.reducePow, DD, c1]
    refine callK_q dyad_Sign.call (s1) rfl rfl ?_
    simp -implicitDefEqProofs only [go_sem, simprocAttr, -Int.reducePow, DD, c1, QZ]
  · have c1 : (dnum x).sign = -1 := Int.sign_eq_neg_one_of_neg (by omega)
    rw [if_neg h0]
    simp -implicitDefEqProofs only [go_sem, simprocAttr, -Int.reducePow, Tryz.f99, DD, c1]
    refine callK_q dyad_Norm.call (n1) rfl rfl ?_
    simp -implicitDefEqProofs only [go_sem, simprocAttr, -Int.reducePow, DD, c1]
    refine callK_q dyad_Sign.call (s1) rfl rfl ?_
    simp -implicitDefEqProofs only [go_sem, simprocAttr, -Int.reducePow, DD, c1, QZ]
theorem rroot4_n (hx : DB x B) (h : dnum x ≤ 0) (hB : B ≤ 20000) (p m : Int) : Sat CT false 100 [DI x, I64 p, I64 m] (.tup [QZ, I64 (if dnum x = 0 then 0 else 12)]) := by
  refine sat_of annulusref4_Root.ok (by simp) ?_
  have DD := annulusref4_Root.dr
  simp only [drP, drPx, drPt, drR, drS, drT, bodyOf, Tryz.f100, Nat.reduceEqDiff, reduceIte, true_and, and_true] at DD
  have s1 := rsign4_r (RD_D hx) hB
  by_cases h0 : dnum x = 0
  · have c1 : (dnum x).sign = 0 := by rw [h0]; rfl
    rw [if_pos h0]
    simp -implicitDefEqProofs only [go_sem, simprocAttr, -Int.reducePow, Tryz.f100, DD, c1]
    refine callK_q annulusref4_Sign.call (s1) rfl rfl ?_
    simp -implicitDefEqProofs only [go_sem, simprocAttr, -Int.reducePow, DD, c1]
    refine callK_q annulusref4_Sign.call (s1) rfl rfl ?_
    simp -implicitDefEqProofs only [go_sem, simprocAttr, -Int.reducePow, DD, c1, QZ]
  · have c1 : (dnum x).sign = -1 := Int.sign_eq_neg_one_of_neg (by omega)
    rw [if_neg h0]
    simp -implicitDefEqProofs only [go_sem, simprocAttr, -Int.reducePow, Tryz.f100, DD, c1]
    refine callK_q annulusref4_Sign.call (s1) rfl rfl ?_
    simp -implicitDefEqProofs only [go_sem, simprocAttr, -Int.reducePow, DD, c1, QZ]
end
end Go.Ab

set_option linter.unusedVariables false
set_option linter.unusedSimpArgs false
set_option linter.unusedSectionVars false
namespace Go.Ab
open Go.Proofs

theorem dv_atk (x : Dyadic) (k : Int) : dv (dnum x) (dexp x + k) = x * dv 1 k := by
  have := dv_mul (dnum x) 1 (dexp x) k
  rw [Int.mul_one, dv_of] at this
  exact this.symm
theorem rscale4_k {B : Nat} {x : Dyadic} (h : DB x B) (k : Int) (hk : k.natAbs ≤ 20000) (hB : B ≤ 20000) : Sat CT false 13 [DI x, I64 k] (DI (x * dv 1 k)) := by
  refine sat_of annulusref4_Scale.ok (by simp) ?_
  have DD := annulusref4_Scale.dr
  simp only [drP, drPx, drPt, drR, drS, drT, bodyOf, Tryz.f13, Nat.reduceEqDiff, reduceIte, true_and, and_true] at DD
  have q := rsign4_r (RD_D h) hB
  have c1 : max (-20000) (min k 20000) = k := by omega
  have c2 : min k 20000 = k := by omega
  have c3 : max (-20000) k = k := by omega
  have b1 := h.num
  have w : IntKind.i64.wrap (dexp x + k) = dexp x + k := wrap_id (by omega)
  by_cases hx : x = 0
  · have s1 := sg_zero hx
    rw [hx, show (0 : Dyadic) * dv 1 k = 0 by grind, ← hx]
    simp -implicitDefEqProofs only [go_sem, simprocAttr, -Int.reducePow, Tryz.f13, DD, s1, c1, c2, c3, w]
    refine callK_q annulusref4_Sign.call (q) rfl rfl ?_
    simp -implicitDefEqProofs only [go_sem, simprocAttr, -Int.reducePow, DD, s1, c1, c2, c3, w]
  · have s1 := sg_ne hx
    have e1 : dnum (x * dv 1 k) = dnum x ∧ dexp (x * dv 1 k) = dexp x + k := by
      rw [← dv_atk]
      exact ⟨dnum_odd (dnum_odd_of hx) _, dexp_odd (dnum_odd_of hx) _⟩
    simp -implicitDefEqProofs only [go_sem, simprocAttr, -Int.reducePow, Tryz.f13, DD, s1, c1, c2, c3, w, e1.1, e1.2]
    refine callK_q annulusref4_Sign.call (q) rfl rfl ?_
    simp -implicitDefEqProofs only [go_sem, simprocAttr, -Int.reducePow, DD, s1, c1, c2, c3, w, e1.1, e1.2]
theorem third : dquo (dv 1 0) (dv 3 0) 2 false = dv 1 0 * dv 1 (-2) := by
  have n1 : dnum (dv 1 0) = 1 := dnum_odd (by decide) 0
  have n3 : dnum (dv 3 0) = 3 := dnum_odd (by decide) 0
  have e1 : dexp (dv 1 0) = 0 := dexp_odd (by decide) 0
  have e3 : dexp (dv 3 0) = 0 := dexp_odd (by decide) 0
  unfold dquo
  rw [if_neg (fun q => q.elim (fun z => absurd (dv_eq_zero.1 z) (by decide)) (fun z => absurd (dv_eq_zero.1 z) (by decide)))]
  simp only [n1, n3, e1, e3]
  decide
theorem rt2 : droot (dv 2 0) 3 true = dv 3 0 * dv 1 (-1) := by
  have e : dv 2 0 = dv 1 1 := by rw [show (2 : Int) = 1 * 2 ^ 1 from rfl, dv_shift]; rfl
  rw [e]
  have n1 : dnum (dv 1 1) = 1 := dnum_odd (by decide) 1
  have e1 : dexp (dv 1 1) = 1 := dexp_odd (by decide) 1
  unfold droot
  rw [n1, e1, if_neg (by decide)]
  have h : isq 2048 = 45 := (isq_eq (by decide) (by decide)).symm
  have r : rsticky 2048 = 91 := by unfold rsticky; rw [h]; decide
  simp only [show rbitsN (Int.natAbs 1) 3 1 = 11 by decide, show (Int.natAbs 1) * 2 ^ 11 = 2048 from rfl, r]
  decide
theorem held_n (n : Nat) (h1 : 1 ≤ n) (h2 : n ≤ 4000) : heldP n = n := by unfold heldP; omega
theorem few_c (v : Int) (h : bl v.natAbs ≤ 10) : DB (dv v 0) 10 ∧ Few (dv v 0) 10 0 := ⟨DB.raw (L := 10) (E := 0) (Nat.lt_of_lt_of_le (bl_lt _) (Nat.pow_le_pow_right (by decide) h)) (by decide) (by decide), Few.of h (by decide)⟩
end Go.Ab

/-! plain laws of quotients and roots: how they lie beside what is divided -/
set_option linter.unusedVariables false
set_option linter.unusedSimpArgs false
set_option linter.unusedSectionVars false
namespace Go.Ab
open Go.Proofs

/-- the sign -/
def dsg (x : Dyadic) : Int := (dnum x).sign
theorem psplit {m : Int} (h : m ≠ 0) (e : Int) : ∃ (o : Int) (z : Nat), m = o * 2 ^ z ∧ dnum (dv m e) = o ∧ dexp (dv m e) = e + z ∧ o % 2 = 1 := by
  obtain ⟨o, z, h1, h2⟩ := odd_part h
  refine ⟨o, z, h1, ?_, ?_, h2⟩
  · rw [h1, dv_shift, dnum_odd h2]
  · rw [h1, dv_shift, dexp_odd h2]
theorem dsg_dv (m e : Int) : dsg (dv m e) = m.sign := by
  unfold dsg
  by_cases h : m = 0
  · rw [h]; rfl
  · obtain ⟨o, z, h1, h2, _⟩ := psplit h e
    rw [h2, h1, Int.sign_mul, show ((2 : Int) ^ z).sign = 1 from Int.sign_eq_one_of_pos (Int.pow_pos (by decide)), Int.mul_one]
theorem dsg_mul (x y : Dyadic) : dsg (x * y) = dsg x * dsg y := by
  have := dv_mul (dnum x) (dnum y) (dexp x) (dexp y)
  rw [dv_of, dv_of] at this
  rw [this, dsg_dv, Int.sign_mul]
  rfl
theorem dsg_zero {x : Dyadic} : dsg x = 0 ↔ x = 0 := by unfold dsg; rw [Int.sign_eq_zero_iff_zero, dnum_zero]
theorem dsg_sq {x : Dyadic} (h : x ≠ 0) : dsg x * dsg x = 1 := by
  have h0 := fun q => h (dsg_zero.1 q)
  have : dsg x = 1 ∨ dsg x = -1 ∨ dsg x = 0 := by
    unfold dsg
    rcases Int.lt_trichotomy (dnum x) 0 with g | g | g
    · exact .inr (.inl (Int.sign_eq_neg_one_of_neg g))
    · rw [g]; exact .inr (.inr rfl)
    · exact .inl (Int.sign_eq_one_of_pos g)
  rcases this with e | e | e
  · rw [e]; rfl
  · rw [e]; rfl
  · exact absurd e h0
theorem dv_cast (m : Int) {a e : Int} {k : Nat} (h : e = a + k) : dv m e = dv (m * 2 ^ k) a := by rw [h, dv_shift]
theorem dv_sub (m n e : Int) : dv m e - dv n e = dv (m - n) e := by
  rw [show dv m e - dv n e = dv m e + (-dv n e) by grind, dv_neg, dv_add]; rfl
theorem sg_signs (x y : Dyadic) : dnum y * sg (decide (dnum x < 0) != decide (dnum y < 0)) (dnum x).natAbs = dnum x * ((dnum y).natAbs : Int) := by
  unfold sg
  by_cases g : dnum x < 0
  · by_cases q : dnum y < 0
    · have e1 : ((dnum x).natAbs : Int) = -dnum x := by omega
      have e2 : ((dnum y).natAbs : Int) = -dnum y := by omega
      simp only [g, q, decide_true, bne_self_eq_false, Bool.false_eq_true, if_false]
      rw [e1, e2, Int.mul_neg, Int.mul_neg, Int.mul_comm]
    · have e1 : ((dnum x).natAbs : Int) = -dnum x := by omega
      have e2 : ((dnum y).natAbs : Int) = dnum y := by omega
      simp only [g, q, decide_true, decide_false, show (true != false) = true from rfl, if_true]
      rw [e1, e2, Int.neg_neg, Int.mul_comm]
  · by_cases q : dnum y < 0
    · have e1 : ((dnum x).natAbs : Int) = dnum x := by omega
      have e2 : ((dnum y).natAbs : Int) = -dnum y := by omega
      simp only [g, q, decide_true, decide_false, show (false != true) = true from rfl, if_true]
      rw [e1, e2, Int.mul_neg, Int.mul_neg, Int.mul_comm]
    · have e1 : ((dnum x).natAbs : Int) = dnum x := by omega
      have e2 : ((dnum y).natAbs : Int) = dnum y := by omega
      simp only [g, q, decide_false, bne_self_eq_false, Bool.false_eq_true, if_false]
      rw [e1, e2, Int.mul_comm]
theorem bl_cut {m P : Nat} (h : P < bl m) (hP : 1 ≤ P) : bl (m / 2 ^ (bl m - P)) = P := by
  have hm : m ≠ 0 := fun e => by rw [e, bl_zero] at h; omega
  refine bl_eq ?_ ?_ hP
  · rw [Nat.le_div_iff_mul_le (Nat.two_pow_pos _), ← Nat.pow_add, show P - 1 + (bl m - P) = bl m - 1 by omega]
    exact bl_le hm
  · exact Nat.div_lt_of_lt_mul (by rw [← Nat.pow_add, show bl m - P + P = bl m by omega]; exact bl_lt m)
/-- a quotient is the floor of a fraction, or one more: as many bits as are asked, by a place that the bits don't move -/
theorem dquo_form {x y : Dyadic} (hx : x ≠ 0) (hy : y ≠ 0) : ∃ (s : Bool) (T : Int), ∀ P : Nat, 1 ≤ P → ∃ u w : Nat, (u : Int) - w = P - 1 - T ∧
    (∀ up, dquo x y P up = dv (RF (sg s ((dnum x).natAbs * 2 ^ u)) ((dnum y).natAbs * 2 ^ w) up) (dexp x - dexp y + T - P + 1)) ∧ bl ((dnum x).natAbs * 2 ^ u / ((dnum y).natAbs * 2 ^ w)) = P ∧
    x * dv (((dnum y).natAbs * 2 ^ w : Nat) : Int) 0 = y * dv (sg s ((dnum x).natAbs * 2 ^ u)) (dexp x - dexp y + T - P + 1) := by
  have hA : (dnum x).natAbs ≠ 0 := fun e => hx (dnum_zero.1 (by omega))
  have hC : (dnum y).natAbs ≠ 0 := fun e => hy (dnum_zero.1 (by omega))
  obtain ⟨p1, hp1⟩ : ∃ p1, p1 = bl (dnum y).natAbs - bl (dnum x).natAbs := ⟨_, rfl⟩
  obtain ⟨p2, hp2⟩ : ∃ p2, p2 = bl (dnum x).natAbs - bl (dnum y).natAbs := ⟨_, rfl⟩
  obtain ⟨T, hT⟩ : ∃ T : Int, T = (p2 : Int) - p1 - (if (dnum x).natAbs * 2 ^ p1 < (dnum y).natAbs * 2 ^ p2 then 1 else 0) := ⟨_, rfl⟩
  refine ⟨decide (dnum x < 0) != decide (dnum y < 0), T, fun P hP => ?_⟩
  obtain ⟨u, hu⟩ : ∃ u, u = ((P : Int) - 1 - T).toNat := ⟨_, rfl⟩
  obtain ⟨w, hw⟩ : ∃ w, w = (-((P : Int) - 1 - T)).toNat := ⟨_, rfl⟩
  obtain ⟨N, hN⟩ : ∃ N : Nat, N = P + 3 + bl (dnum y).natAbs - bl (dnum x).natAbs := ⟨_, rfl⟩
  have huw : (u : Int) - w = P - 1 - T := by omega
  have q := fun s up => quot_law (N := N) (P := P) (u := u) (w := w) (p1 := p1) (p2 := p2) hA hC hP (by omega) hT (by omega) huw (by omega) s up
  refine ⟨u, w, huw, fun up => ?_, ?_, ?_⟩
  · obtain ⟨l1, l2, l3⟩ := q (decide (dnum x < 0) != decide (dnum y < 0)) up
    unfold dquo
    rw [if_neg (fun q => q.elim hx hy)]
    simp only
    rw [← hN, l3]
    congr 1
    omega
  · obtain ⟨l1, l2, l3⟩ := q false false
    have e : ∀ a d : Nat, RF (sg false a) d false = ((a / d : Nat) : Int) := fun a d => by unfold RF sg; simp
    rw [e, e] at l3
    rw [← Int.ofNat.inj l3]
    exact bl_cut l2 hP
  · have e1 : x * dv (((dnum y).natAbs * 2 ^ w : Nat) : Int) 0 = dv (dnum x * (((dnum y).natAbs * 2 ^ w : Nat) : Int)) (dexp x + 0) := by rw [← dv_mul, dv_of]
    have e2 := dv_mul (dnum y) (sg (decide (dnum x < 0) != decide (dnum y < 0)) ((dnum x).natAbs * 2 ^ u)) (dexp y) (dexp x - dexp y + T - P + 1)
    rw [dv_of] at e2
    rw [e1, e2, ← sg_mul, ← Int.mul_assoc, sg_signs]
    have e3 : (((dnum y).natAbs * 2 ^ w : Nat) : Int) = ((dnum y).natAbs : Int) * 2 ^ w := by push_cast; rfl
    rw [e3, ← Int.mul_assoc, dv_shift, dv_shift]
    congr 1
    omega
theorem RF_lo (a : Int) {d : Nat} (hd : 0 < d) : RF a d false * d ≤ a ∧ (a % (d : Int) = 0 ↔ RF a d false * d = a) ∧ RF a d false = a / (d : Int) := by
  have e : RF a d false = a / (d : Int) := by unfold RF; simp
  have h := Int.mul_ediv_add_emod a d
  have h1 := Int.emod_nonneg a (show (d : Int) ≠ 0 by omega)
  rw [e, Int.mul_comm]
  exact ⟨by omega, by omega, rfl⟩
theorem RF_hi (a : Int) {d : Nat} (hd : 0 < d) : a ≤ RF a d true * d ∧ (a % (d : Int) = 0 ↔ RF a d true * d = a) ∧ (RF a d true = RF a d false ∧ a % (d : Int) = 0 ∨ RF a d true = RF a d false + 1 ∧ ¬ a % (d : Int) = 0) := by
  obtain ⟨l1, l2, l3⟩ := RF_lo a hd
  have h := Int.mul_ediv_add_emod a d
  have h1 := Int.emod_nonneg a (show (d : Int) ≠ 0 by omega)
  have h2 := Int.emod_lt_of_pos a (show (0 : Int) < d by omega)
  by_cases q : a % (d : Int) = 0
  · have e : RF a d true = RF a d false := by unfold RF; simp [q]
    rw [e]
    have := l2.1 q
    exact ⟨by omega, l2, .inl ⟨rfl, q⟩⟩
  · have e : RF a d true = RF a d false + 1 := by unfold RF; simp [q]
    rw [e, Int.add_mul, Int.one_mul, l3, Int.mul_comm]
    exact ⟨by omega, ⟨fun g => absurd g q, fun g => by omega⟩, .inr ⟨rfl, q⟩⟩
/-- with more bits both sides close in -/
theorem RF_near {a b : Int} {d c j : Nat} (hd : 0 < d) (hc : 0 < c) (h : b * d = a * c * 2 ^ j) : RF a d false * 2 ^ j ≤ RF b c false ∧ RF b c true ≤ RF a d true * 2 ^ j := by
  have hd' : (0 : Int) < d := by omega
  have hc' : (0 : Int) < c := by omega
  have hp : (0 : Int) < 2 ^ j := Int.pow_pos (by decide)
  constructor
  · obtain ⟨l1, _, l3⟩ := RF_lo a hd
    rw [(RF_lo b hc).2.2, Int.le_ediv_iff_mul_le hc']
    refine Int.le_of_mul_le_mul_right ?_ hd'
    rw [h]
    have := Int.mul_le_mul_of_nonneg_right (Int.mul_le_mul_of_nonneg_right l1 (Int.le_of_lt hc')) (Int.le_of_lt hp)
    rw [show RF a d false * 2 ^ j * c * d = RF a d false * d * c * 2 ^ j by grind]
    exact this
  · obtain ⟨l1, _, _⟩ := RF_hi a hd
    obtain ⟨m1, m2, m3⟩ := RF_hi b hc
    refine Int.not_lt.1 (fun g => ?_)
    -- what is less than the least one that is no less
    have g1 : RF a d true * 2 ^ j * c * d < b * d ∨ RF a d true * 2 ^ j * c * d = b * d := by
      rcases m3 with ⟨e, q⟩ | ⟨e, q⟩
      · have e2 := m2.1 q
        left
        refine Int.mul_lt_mul_of_pos_right ?_ hd'
        rw [← e2]
        exact Int.mul_lt_mul_of_pos_right g hc'
      · obtain ⟨n1, n2, n3⟩ := RF_lo b hc
        have g2 : RF a d true * 2 ^ j ≤ RF b c false := by omega
        have g3 : RF a d true * 2 ^ j * c ≤ b := Int.le_trans (Int.mul_le_mul_of_nonneg_right g2 (Int.le_of_lt hc')) n1
        have g4 := Int.mul_le_mul_of_nonneg_right g3 (Int.le_of_lt hd')
        rcases Int.lt_or_eq_of_le g4 with g5 | g5
        · exact .inl g5
        · exact .inr g5
    have k : b * d ≤ RF a d true * 2 ^ j * c * d := by
      rw [h, show RF a d true * 2 ^ j * c * d = RF a d true * d * c * 2 ^ j by grind]
      exact Int.mul_le_mul_of_nonneg_right (Int.mul_le_mul_of_nonneg_right l1 (Int.le_of_lt hc')) (Int.le_of_lt hp)
    rcases g1 with g1 | g1
    · omega
    · have e := Int.eq_of_mul_eq_mul_right (Int.ne_of_gt hd') g1
      have q : b % (c : Int) = 0 := by rw [← e]; exact Int.mul_emod_left _ _
      have := Int.eq_of_mul_eq_mul_right (Int.ne_of_gt hc') ((m2.1 q).trans e.symm)
      omega
theorem sg_abs' (s : Bool) (m : Nat) : (sg s m).natAbs = m := by unfold sg; cases s <;> simp
theorem sign_le {z : Int} (h : z ≤ 0) : z.sign ≤ 0 := by
  rcases Int.lt_or_eq_of_le h with g | g
  · rw [Int.sign_eq_neg_one_of_neg g]; decide
  · rw [g]; decide
theorem sign_ge {z : Int} (h : 0 ≤ z) : 0 ≤ z.sign := by
  rcases Int.lt_or_eq_of_le h with g | g
  · rw [Int.sign_eq_one_of_pos g]; decide
  · rw [← g]; decide
theorem dsg_le {a b e : Int} (h : a ≤ b) : dsg (dv a e - dv b e) ≤ 0 := by rw [dv_sub, dsg_dv]; exact sign_le (by omega)
theorem dsg_ge {a b e : Int} (h : b ≤ a) : 0 ≤ dsg (dv a e - dv b e) := by rw [dv_sub, dsg_dv]; exact sign_ge (by omega)
theorem dquo_near {x y : Dyadic} (hx : x ≠ 0) (hy : y ≠ 0) {P Q : Nat} (hP : 1 ≤ P) (hQ : P ≤ Q) :
    dsg (dquo x y P false - dquo x y Q false) ≤ 0 ∧ dsg (dquo x y Q false - dquo x y Q true) ≤ 0 ∧ dsg (dquo x y Q true - dquo x y P true) ≤ 0 := by
  have hC : 0 < (dnum y).natAbs := Nat.pos_of_ne_zero (fun e => hy (dnum_zero.1 (by omega)))
  obtain ⟨s, T, hf⟩ := dquo_form hx hy
  obtain ⟨u, w, h1, h2, _, _⟩ := hf P hP
  obtain ⟨u', w', h1', h2', _, _⟩ := hf Q (by omega)
  obtain ⟨j, hj⟩ : ∃ j, j = Q - P := ⟨_, rfl⟩
  have hk : sg s ((dnum x).natAbs * 2 ^ u') * (((dnum y).natAbs * 2 ^ w : Nat) : Int) = sg s ((dnum x).natAbs * 2 ^ u) * (((dnum y).natAbs * 2 ^ w' : Nat) : Int) * 2 ^ j := by
    rw [← sg_mul, ← sg_mul]
    have e3 : ∀ k, (((dnum y).natAbs * 2 ^ k : Nat) : Int) = ((dnum y).natAbs : Int) * 2 ^ k := fun k => by push_cast; rfl
    rw [e3, e3]
    have e : (2 : Int) ^ u' * 2 ^ w = 2 ^ u * 2 ^ w' * 2 ^ j := by rw [← Int.pow_add, ← Int.pow_add, ← Int.pow_add]; congr 1; omega
    generalize sg s (dnum x).natAbs = a
    generalize ((dnum y).natAbs : Int) = c
    rw [show a * 2 ^ u' * (c * 2 ^ w) = a * c * (2 ^ u' * 2 ^ w) by grind, e]
    grind
  obtain ⟨n1, n2⟩ := RF_near (Nat.mul_pos hC (Nat.two_pow_pos w)) (Nat.mul_pos hC (Nat.two_pow_pos w')) hk
  have e : dexp x - dexp y + T - (P : Int) + 1 = dexp x - dexp y + T - Q + 1 + (j : Nat) := by omega
  have hd' : 0 < (dnum y).natAbs * 2 ^ w' := Nat.mul_pos hC (Nat.two_pow_pos w')
  rw [h2 false, h2 true, h2' false, h2' true, dv_cast _ e, dv_cast _ e]
  refine ⟨dsg_le n1, dsg_le ?_, dsg_le n2⟩
  obtain ⟨_, _, l3⟩ := RF_hi (sg s ((dnum x).natAbs * 2 ^ u')) hd'
  rcases l3 with ⟨q, _⟩ | ⟨q, _⟩ <;> omega
theorem RF_size {s : Bool} {X D P : Nat} (hD : 0 < D) (hP : 1 ≤ P) (h : bl (X / D) = P) (up : Bool) : RF (sg s X) D up ≠ 0 ∧ (RF (sg s X) D up).natAbs ≤ 2 ^ P := by
  have hb := bl_lt (X / D)
  rw [h] at hb
  have h0 : X / D ≠ 0 := fun e => by rw [e, bl_zero] at h; omega
  cases s
  · have e1 : (sg false X) = (X : Int) := by unfold sg; simp
    rw [e1]
    unfold RF
    rw [← Int.natCast_ediv]
    generalize X / D = v at *
    generalize 2 ^ P = Z at *
    have hi : (if up = true ∧ (X : Int) % (D : Int) ≠ 0 then (1 : Int) else 0) = 0 ∨ (if up = true ∧ (X : Int) % (D : Int) ≠ 0 then (1 : Int) else 0) = 1 := by split <;> simp
    generalize (if up = true ∧ (X : Int) % (D : Int) ≠ 0 then (1 : Int) else 0) = c at *
    clear e1
    omega
  · have e1 : (sg true X) = -(X : Int) := by unfold sg; simp
    rw [e1]
    unfold RF
    obtain ⟨n1, n2⟩ := neg_div X D hD
    rw [n1]
    clear n1 e1
    by_cases q : X % D = 0
    · have q2 := n2.2 q
      rw [if_pos q, if_neg (fun g => g.2 q2)]
      clear n2 q2 q
      generalize X / D = v at *
      generalize 2 ^ P = Z at *
      omega
    · have q2 : (-(X : Int)) % (D : Int) ≠ 0 := fun g => q (n2.1 g)
      rw [if_neg q]
      cases up
      · rw [if_neg (fun g => by cases g.1)]
        clear n2 q2 q
        generalize X / D = v at *
        generalize 2 ^ P = Z at *
        omega
      · rw [if_pos ⟨rfl, q2⟩]
        clear n2 q2 q
        generalize X / D = v at *
        generalize 2 ^ P = Z at *
        omega
theorem bl_pow_le {z : Int} {P : Nat} (hP : 1 ≤ P) (h0 : z ≠ 0) (h : z.natAbs ≤ 2 ^ P) (e : Int) : bl (dnum (dv z e)).natAbs ≤ P := by
  obtain ⟨o, k, h1, h2, h3, h4⟩ := psplit h0 e
  rw [h2]
  have h5 : z.natAbs = o.natAbs * 2 ^ k := by rw [h1, Int.natAbs_mul, Int.natAbs_pow]; rfl
  refine bl_le_of (Nat.lt_of_le_of_ne ?_ (fun q => ?_))
  · refine Nat.le_trans ?_ h
    rw [h5]
    exact Nat.le_mul_of_pos_right _ (Nat.two_pow_pos k)
  · -- an odd number isn't so great a power of two
    obtain ⟨P', rfl⟩ : ∃ P', P = P' + 1 := ⟨P - 1, by omega⟩
    rw [Nat.pow_succ] at q
    omega
/-- the quotient between both sides -/
theorem dquo_sides {x y : Dyadic} (hx : x ≠ 0) (hy : y ≠ 0) {P : Nat} (hP : 1 ≤ P) : ∃ k1 k2 : Int, k1 ≤ 0 ∧ 0 ≤ k2 ∧ dsg (dquo x y P false * y - x) = dsg y * k1 ∧ dsg (dquo x y P true * y - x) = dsg y * k2 ∧
    (dquo x y P false = dquo x y P true ∨ dquo x y P false * y ≠ x ∧ dquo x y P true * y ≠ x) ∧
    (∀ up, dquo x y P up ≠ 0 ∧ bl (dnum (dquo x y P up)).natAbs ≤ P) := by
  have hC : 0 < (dnum y).natAbs := Nat.pos_of_ne_zero (fun e => hy (dnum_zero.1 (by omega)))
  obtain ⟨s, T, hf⟩ := dquo_form hx hy
  obtain ⟨u, w, h1, h2, h3, h4⟩ := hf P hP
  have hd : 0 < (dnum y).natAbs * 2 ^ w := Nat.mul_pos hC (Nat.two_pow_pos w)
  generalize hX : (dnum x).natAbs * 2 ^ u = X at *
  generalize hD : (dnum y).natAbs * 2 ^ w = D at *
  generalize he : dexp x - dexp y + T - (P : Int) + 1 = E at *
  have hsD : dsg (dv (D : Int) 0) = 1 := by rw [dsg_dv]; exact Int.sign_eq_one_of_pos (by omega)
  have key : ∀ up, dsg (dquo x y P up * y - x) = dsg y * (RF (sg s X) D up * D - sg s X).sign := fun up => by
    have a : dsg (dquo x y P up * y - x) = dsg ((dquo x y P up * y - x) * dv (D : Int) 0) := by rw [dsg_mul, hsD, Int.mul_one]
    have b : (dquo x y P up * y - x) * dv (D : Int) 0 = y * dv (RF (sg s X) D up * D - sg s X) E := by
      have c : dquo x y P up * dv (D : Int) 0 = dv (RF (sg s X) D up * D) E := by rw [h2, dv_mul, Int.add_zero]
      rw [show (dquo x y P up * y - x) * dv (D : Int) 0 = y * (dquo x y P up * dv (D : Int) 0) - x * dv (D : Int) 0 by grind, c, h4, ← dv_sub]
      grind
    rw [a, b, dsg_mul, dsg_dv]
  obtain ⟨l1, l2, _⟩ := RF_lo (sg s X) hd
  obtain ⟨g1, g2, g3⟩ := RF_hi (sg s X) hd
  refine ⟨_, _, sign_le (by omega), sign_ge (by omega), key false, key true, ?_, fun up => ?_⟩
  · rcases g3 with ⟨q, _⟩ | ⟨_, q⟩
    · left; rw [h2, h2, q]
    · right
      have no : ∀ up, RF (sg s X) D up * D ≠ sg s X → dquo x y P up * y ≠ x := fun up z e => by
        have k := key up
        rw [e, show x - x = 0 by grind, show dsg 0 = 0 from rfl] at k
        rcases Int.mul_eq_zero.1 k.symm with k | k
        · exact hy (dsg_zero.1 k)
        · have := Int.sign_eq_zero_iff_zero.1 k
          exact z (by omega)
      exact ⟨no false (fun e => q (l2.2 e)), no true (fun e => q (g2.2 e))⟩
  · obtain ⟨r1, r2⟩ := RF_size (s := s) hd hP h3 up
    rw [h2]
    exact ⟨fun e => r1 (dv_eq_zero.1 e), bl_pow_le hP r1 r2 E⟩
/-- what can be told exactly is -/
theorem dquo_exact {x y : Dyadic} (hx : x ≠ 0) (hy : y ≠ 0) {P : Nat} (hP : 1 ≤ P) (hb : bl (dnum x).natAbs ≤ P) (up : Bool) : dquo (x * y) y P up = x := by
  have hxy : x * y ≠ 0 := fun e => by
    have := dsg_mul x y
    rw [e, show dsg 0 = 0 from rfl] at this
    rcases Int.mul_eq_zero.1 this.symm with q | q
    · exact hx (dsg_zero.1 q)
    · exact hy (dsg_zero.1 q)
  have hC : 0 < (dnum y).natAbs := Nat.pos_of_ne_zero (fun e => hy (dnum_zero.1 (by omega)))
  obtain ⟨s, T, hf⟩ := dquo_form hxy hy
  obtain ⟨u, w, h1, h2, h3, h4⟩ := hf P hP
  have hd : 0 < (dnum y).natAbs * 2 ^ w := Nat.mul_pos hC (Nat.two_pow_pos w)
  generalize hX : (dnum (x * y)).natAbs * 2 ^ u = X at *
  generalize hD : (dnum y).natAbs * 2 ^ w = D at *
  generalize he : dexp (x * y) - dexp y + T - (P : Int) + 1 = E at *
  -- x times D is X at E
  have h5 : x * dv (D : Int) 0 = dv (sg s X) E := by
    have h6 : y * (x * dv (D : Int) 0 - dv (sg s X) E) = 0 := by grind
    have := dsg_mul y (x * dv (D : Int) 0 - dv (sg s X) E)
    rw [h6, show dsg 0 = 0 from rfl] at this
    rcases Int.mul_eq_zero.1 this.symm with q | q
    · exact absurd (dsg_zero.1 q) hy
    · have := dsg_zero.1 q; grind
  have h6 : x * dv (D : Int) 0 = dv (dnum x * D) (dexp x) := by
    have := dv_mul (dnum x) D (dexp x) 0
    rw [dv_of, Int.add_zero] at this
    exact this
  rw [h6] at h5
  have hge : E ≤ dexp x := by
    refine Int.not_lt.1 (fun g => ?_)
    obtain ⟨k, hk⟩ : ∃ k : Nat, E = dexp x + (k + 1 : Nat) := ⟨(E - dexp x - 1).toNat, by omega⟩
    rw [dv_cast (sg s X) hk] at h5
    have h7 : dv (dnum x * D - sg s X * 2 ^ (k + 1)) (dexp x) = 0 := by rw [← dv_sub, h5]; grind
    have h8 := dv_eq_zero.1 h7
    have h9 : (dnum x).natAbs * D = X * 2 ^ (k + 1) := by
      have a : (dnum x * (D : Int)).natAbs = (sg s X * 2 ^ (k + 1)).natAbs := by congr 1; omega
      rw [Int.natAbs_mul, Int.natAbs_mul, Int.natAbs_pow, sg_abs'] at a
      exact a
    have h10 : X / D * 2 ^ (k + 1) ≤ (dnum x).natAbs := by
      have e := Nat.div_mul_le_self X D
      refine Nat.le_of_mul_le_mul_right ?_ hd
      rw [h9, show X / D * 2 ^ (k + 1) * D = X / D * D * 2 ^ (k + 1) by grind]
      exact Nat.mul_le_mul_right _ e
    have h0 : X / D ≠ 0 := fun e => by rw [e, bl_zero] at h3; omega
    have h11 := bl_mono h10
    rw [bl_up h0, h3] at h11
    omega
  obtain ⟨k, hk⟩ : ∃ k : Nat, dexp x = E + (k : Nat) := ⟨(dexp x - E).toNat, by omega⟩
  rw [dv_cast (dnum x * (D : Int)) hk] at h5
  have h7 : dv (dnum x * D * 2 ^ k - sg s X) E = 0 := by rw [← dv_sub, h5]; grind
  have h8 := dv_eq_zero.1 h7
  rw [h2, RF_exact hd (show sg s X = dnum x * 2 ^ k * (D : Int) by rw [show dnum x * 2 ^ k * (D : Int) = dnum x * (D : Int) * 2 ^ k by grind]; omega) up, ← dv_cast (dnum x) hk, dv_of]
/-! roots -/
theorem sq_pow (r j k : Nat) : r * 2 ^ j * (r * 2 ^ j) * 2 ^ k = r * r * 2 ^ k * 2 ^ (2 * j) := by
  rw [show 2 * j = j + j by omega, Nat.pow_add]
  generalize 2 ^ j = X
  generalize 2 ^ k = Y
  grind
theorem droot_form {x : Dyadic} (hx : 0 < dnum x) {P : Nat} (hP : 1 ≤ P) : ∃ (r A k : Nat) (e : Int), bl r = P ∧ x = dv (A : Int) (2 * e - k) ∧ r = isq (A / 2 ^ k) ∧
    (∀ up, droot x P up = dv ((r : Int) + (if up = true ∧ ¬ (A % 2 ^ k = 0 ∧ r * r = A / 2 ^ k) then 1 else 0)) e) := by
  have hA : (dnum x).natAbs ≠ 0 := by omega
  obtain ⟨t, ht⟩ : ∃ t, t = dtop x / 2 := ⟨_, rfl⟩
  obtain ⟨sh, hsh⟩ : ∃ sh, sh = dexp x - 2 * (t - P + 1) := ⟨_, rfl⟩
  have hx0 : ¬ x = 0 := fun e => by rw [e] at hx; exact absurd hx (by decide)
  have ht' : t = ((bl (dnum x).natAbs : Int) - 1 + dexp x) / 2 := by rw [ht]; unfold dtop; rw [if_neg hx0]
  have hf := fun up => droot_eq hx hP ht hsh up
  obtain ⟨r1, r2, _⟩ := rbitsN_ok (A := (dnum x).natAbs) (P := P) (ex := dexp x)
  obtain ⟨l1, l2, l3⟩ := root_law hA hP r1 r2 ht' hsh false
  obtain ⟨k, hk⟩ : ∃ k, k = (-sh).toNat := ⟨_, rfl⟩
  obtain ⟨A, hAe⟩ : ∃ A, A = (dnum x).natAbs * 2 ^ sh.toNat := ⟨_, rfl⟩
  have hM : mvN (dnum x).natAbs sh = A / 2 ^ k := by rw [hk, hAe]; rfl
  have hX : mvX (dnum x).natAbs sh ↔ A % 2 ^ k = 0 := by
    unfold mvX
    rw [← hk, hAe]
    by_cases q : k = 0
    · rw [q]; simp [Nat.mod_one]
    · have : sh.toNat = 0 := by omega
      rw [this]; simp
  refine ⟨isq (A / 2 ^ k), A, k, t - P + 1, ?_, ?_, rfl, fun up => ?_⟩
  · have e : ∀ a d : Nat, RF (a : Int) d false = ((a / d : Nat) : Int) := fun a d => by unfold RF; simp
    rw [e, if_neg (fun g => by cases g.1), Int.add_zero, hM] at l3
    rw [← Int.ofNat.inj l3]
    exact bl_cut l2 hP
  · have e1 : dnum x = ((dnum x).natAbs : Int) := by omega
    have e2 : (A : Int) = dnum x * 2 ^ sh.toNat := by rw [hAe, e1]; push_cast; simp
    rw [e2, dv_shift, show 2 * (t - (P : Int) + 1) - (k : Int) + (sh.toNat : Int) = dexp x by omega, dv_of]
  · rw [← hf up, hM]
    congr 2
    by_cases q : up = true ∧ ¬ (A % 2 ^ k = 0 ∧ isq (A / 2 ^ k) * isq (A / 2 ^ k) = A / 2 ^ k)
    · rw [if_pos q, if_pos ⟨q.1, fun g => q.2 ⟨hX.1 g.1, g.2⟩⟩]
    · rw [if_neg q, if_neg (fun g => q ⟨g.1, fun z => g.2 ⟨hX.2 z.1, z.2⟩⟩)]
theorem sq_dv (a : Int) (e : Int) (k : Nat) : dv a e * dv a e = dv (a * a * 2 ^ k) (2 * e - k) := by
  rw [dv_mul, dv_shift]
  congr 1
  omega
theorem droot_sides {x : Dyadic} (hx : 0 < dnum x) {P : Nat} (hP : 1 ≤ P) : dsg (droot x P false * droot x P false - x) ≤ 0 ∧ 0 ≤ dsg (droot x P true * droot x P true - x) ∧
    dsg (droot x P true - droot x P false - dv 1 (dtop (droot x P false) - P + 1)) ≤ 0 ∧ (∀ up, droot x P up ≠ 0 ∧ bl (dnum (droot x P up)).natAbs ≤ P) := by
  obtain ⟨r, A, k, e, h1, h2, h3, h4⟩ := droot_form hx hP
  obtain ⟨s1, s2⟩ := isq_spec (A / 2 ^ k)
  rw [← h3] at s1 s2
  have hA := Nat.div_mul_le_self A (2 ^ k)
  have hA2 : A < (A / 2 ^ k + 1) * 2 ^ k := by
    have := Nat.div_add_mod A (2 ^ k)
    have := Nat.mod_lt A (Nat.two_pow_pos k)
    rw [Nat.add_mul, Nat.one_mul, Nat.mul_comm (A / 2 ^ k)]
    omega
  have h0 : r ≠ 0 := fun q => by rw [q, bl_zero] at h1; omega
  have hb := bl_lt r
  rw [h1] at hb
  have hlo : droot x P false = dv (r : Int) e := by rw [h4, if_neg (fun g => by cases g.1), Int.add_zero]
  have hhi : (droot x P true = dv (r : Int) e ∧ r * r * 2 ^ k = A) ∨ droot x P true = dv ((r : Int) + 1) e := by
    rw [h4]
    by_cases q : A % 2 ^ k = 0 ∧ r * r = A / 2 ^ k
    · rw [if_neg (fun g => g.2 q), Int.add_zero]
      refine .inl ⟨rfl, ?_⟩
      rw [q.2]
      exact Nat.div_mul_cancel (Nat.dvd_of_mod_eq_zero q.1)
    · rw [if_pos ⟨rfl, q⟩]; exact .inr rfl
  have htop : dtop (dv (r : Int) e) - P + 1 = e := by rw [dtop_dv (by omega), Int.natAbs_natCast, h1]; omega
  have c1 : ((r * r * 2 ^ k : Nat) : Int) = (r : Int) * r * 2 ^ k := by push_cast; rfl
  have c2 : (((r + 1) * (r + 1) * 2 ^ k : Nat) : Int) = ((r : Int) + 1) * ((r : Int) + 1) * 2 ^ k := by push_cast; rfl
  refine ⟨?_, ?_, ?_, fun up => ?_⟩
  · rw [hlo, sq_dv _ _ k, h2]
    refine dsg_le ?_
    rw [← c1]
    exact Int.ofNat_le.2 (Nat.le_trans (Nat.mul_le_mul_right _ s1) hA)
  · rcases hhi with ⟨e1, e2⟩ | e1
    · rw [e1, sq_dv _ _ k, h2]
      refine dsg_ge ?_
      rw [← c1]
      exact Int.ofNat_le.2 (Nat.le_of_eq e2.symm)
    · rw [e1, sq_dv _ _ k, h2]
      refine dsg_ge ?_
      rw [← c2]
      exact Int.ofNat_le.2 (Nat.le_of_lt (Nat.lt_of_lt_of_le hA2 (Nat.mul_le_mul_right _ s2)))
  · rw [hlo, htop]
    rcases hhi with ⟨e1, e2⟩ | e1
    · rw [e1, dv_sub]
      refine dsg_le (by omega)
    · rw [e1, dv_sub]
      exact dsg_le (by omega)
  · have n0 : (r : Int) + (if up = true ∧ ¬ (A % 2 ^ k = 0 ∧ r * r = A / 2 ^ k) then 1 else 0) ≠ 0 := by split <;> omega
    have n1 : ((r : Int) + (if up = true ∧ ¬ (A % 2 ^ k = 0 ∧ r * r = A / 2 ^ k) then 1 else 0)).natAbs ≤ 2 ^ P := by
      generalize 2 ^ P = Z at *
      split <;> omega
    rw [h4]
    exact ⟨fun q => n0 (dv_eq_zero.1 q), bl_pow_le hP n0 n1 e⟩
theorem droot_exact {x : Dyadic} (hx : 0 < dnum x) {P : Nat} (hP : 1 ≤ P) (hb : bl (dnum x).natAbs ≤ P) (up : Bool) : droot (x * x) P up = x := by
  have hxx : 0 < dnum (x * x) := by
    have := dsg_mul x x
    unfold dsg at this
    rw [Int.sign_eq_one_of_pos hx] at this
    exact Int.sign_eq_one_iff_pos.1 this
  obtain ⟨r, A, k, e, h1, h2, h3, h4⟩ := droot_form hxx hP
  obtain ⟨s1, s2⟩ := isq_spec (A / 2 ^ k)
  rw [← h3] at s1 s2
  have h0 : r ≠ 0 := fun q => by rw [q, bl_zero] at h1; omega
  have hA := Nat.div_mul_le_self A (2 ^ k)
  have hA2 : A < (A / 2 ^ k + 1) * 2 ^ k := by
    have := Nat.div_add_mod A (2 ^ k)
    have := Nat.mod_lt A (Nat.two_pow_pos k)
    rw [Nat.add_mul, Nat.one_mul, Nat.mul_comm (A / 2 ^ k)]
    omega
  obtain ⟨o, ho⟩ : ∃ o : Nat, (o : Int) = dnum x := ⟨(dnum x).toNat, by omega⟩
  have ho2 : (dnum x).natAbs = o := by omega
  have hxd : x = dv (o : Int) (dexp x) := by rw [ho, dv_of]
  rw [ho2] at hb
  have hge : e ≤ dexp x := by
    refine Int.not_lt.1 (fun g => ?_)
    obtain ⟨j, hj⟩ : ∃ j : Nat, e = dexp x + (j + 1 : Nat) := ⟨(e - dexp x - 1).toNat, by omega⟩
    -- the square lies below that of what is greater
    have e1 : dv ((A : Int) * 2 ^ (2 * (j + 1))) (2 * dexp x - k) = dv (A : Int) (2 * e - k) := by rw [dv_shift]; congr 1; omega
    have e2 : dv ((o : Int) * o * 2 ^ k) (2 * dexp x - k) = x * x := by rw [← sq_dv, ← hxd]
    have e3 : dv ((A : Int) * 2 ^ (2 * (j + 1)) - (o : Int) * o * 2 ^ k) (2 * dexp x - k) = 0 := by rw [← dv_sub, e1, e2, h2]; grind
    have e4 := dv_eq_zero.1 e3
    have e5 : A * 2 ^ (2 * (j + 1)) = o * o * 2 ^ k := by
      have a1 : ((A * 2 ^ (2 * (j + 1)) : Nat) : Int) = (A : Int) * 2 ^ (2 * (j + 1)) := by push_cast; rfl
      have a2 : ((o * o * 2 ^ k : Nat) : Int) = (o : Int) * o * 2 ^ k := by push_cast; rfl
      omega
    have e6 : r * 2 ^ (j + 1) * (r * 2 ^ (j + 1)) * 2 ^ k ≤ o * o * 2 ^ k := by
      rw [← e5, sq_pow]
      exact Nat.mul_le_mul_right _ (Nat.le_trans (Nat.mul_le_mul_right _ s1) hA)
    have e7 := Nat.le_of_mul_le_mul_right e6 (Nat.two_pow_pos k)
    have e8 : r * 2 ^ (j + 1) ≤ o := Nat.not_lt.1 (fun g => by have := Nat.mul_self_lt_mul_self g; omega)
    have := bl_mono e8
    rw [bl_up h0, h1] at this
    omega
  obtain ⟨j, hj⟩ : ∃ j : Nat, dexp x = e + (j : Nat) := ⟨(dexp x - e).toNat, by omega⟩
  obtain ⟨w, hw⟩ : ∃ w, w = o * 2 ^ j := ⟨_, rfl⟩
  have hxw : x = dv (w : Int) e := by
    rw [hxd, dv_cast _ hj, hw]
    congr 1
  have e3 : dv ((A : Int) - (w : Int) * w * 2 ^ k) (2 * e - k) = 0 := by rw [← dv_sub, ← sq_dv, ← hxw, h2]; grind
  have e4 := dv_eq_zero.1 e3
  have e5 : A = w * w * 2 ^ k := by
    have a2 : ((w * w * 2 ^ k : Nat) : Int) = (w : Int) * w * 2 ^ k := by push_cast; rfl
    omega
  have e6 : A / 2 ^ k = w * w := by rw [e5]; exact Nat.mul_div_cancel _ (Nat.two_pow_pos k)
  have e7 : r = w := by rw [h3, e6]; exact (isq_eq (Nat.le_refl _) (Nat.mul_self_lt_mul_self (Nat.lt_succ_self w))).symm
  rw [h4, if_neg (fun g => g.2 ⟨by rw [e5]; exact Nat.mul_mod_left _ _, by rw [e6, e7]⟩), Int.add_zero, e7, ← hxw]
/-- a power of two by three -/
theorem dquo_third (n : Int) {P : Nat} (hP : 1 ≤ P) : (dv 1 n - dquo (dv 1 n) (dv 3 0) P false * dv 3 0 = dv 1 (n - P - 1) ∧ dquo (dv 1 n) (dv 3 0) P true * dv 3 0 - dv 1 n = dv 2 (n - P - 1)) ∨
    (dv 1 n - dquo (dv 1 n) (dv 3 0) P false * dv 3 0 = dv 2 (n - P - 1) ∧ dquo (dv 1 n) (dv 3 0) P true * dv 3 0 - dv 1 n = dv 1 (n - P - 1)) := by
  have n1 : dnum (dv 1 n) = 1 := dnum_odd (by decide) n
  have n3 : dnum (dv 3 0) = 3 := dnum_odd (by decide) 0
  have e1 : dexp (dv 1 n) = n := dexp_odd (by decide) n
  have e3 : dexp (dv 3 0) = 0 := dexp_odd (by decide) 0
  have z1 : dv 1 n ≠ 0 := fun z => absurd (dv_eq_zero.1 z) (by decide)
  have z3 : dv 3 0 ≠ 0 := fun z => absurd (dv_eq_zero.1 z) (by decide)
  have hq : ∀ up, dquo (dv 1 n) (dv 3 0) P up = dv (RF ((1 : Int) * 2 ^ (P + 1)) ((3 : Int) * 2 ^ 0).toNat up) (n - 0 + (-2) - P + 1) := fun up => by
    have := dquo_eq (X := dv 1 n) (Y := dv 3 0) z1 z3 (.inr ⟨by rw [n3]; decide, rfl, rfl⟩) (P := P) (p1 := 1) (p2 := 0) (u := P + 1) (w := 0) (T := -2) hP (by rw [n1, n3]; decide) (by rw [n1, n3]; decide) (.inr rfl) (by omega) up
    rw [n1, n3, e1, e3] at this
    exact this.symm
  have t3 : ((3 : Int) * 2 ^ 0).toNat = 3 := by decide
  rw [hq, hq, t3, Int.one_mul]
  obtain ⟨E, hE⟩ : ∃ E, E = n - P - 1 := ⟨_, rfl⟩
  rw [show n - 0 + (-2) - (P : Int) + 1 = E by omega, show n - (P : Int) - 1 = E by omega, dv_mul, dv_mul, Int.add_zero, dv_cast (1 : Int) (show n = E + (P + 1 : Nat) by omega), Int.one_mul, dv_sub, dv_sub]
  have hodd : (2 : Int) ^ (P + 1) % 3 = 1 ∨ (2 : Int) ^ (P + 1) % 3 = 2 := by
    have : ∀ m : Nat, (2 : Int) ^ m % 3 = 1 ∨ (2 : Int) ^ m % 3 = 2 := fun m => by
      induction m with
      | zero => exact .inl rfl
      | succ m ih => rw [Int.pow_succ]; omega
    exact this _
  obtain ⟨l1, l2, l3⟩ := RF_lo ((2 : Int) ^ (P + 1)) (d := 3) (by decide)
  obtain ⟨g1, g2, g3⟩ := RF_hi ((2 : Int) ^ (P + 1)) (d := 3) (by decide)
  have h := Int.mul_ediv_add_emod ((2 : Int) ^ (P + 1)) 3
  have d3 : ((3 : Nat) : Int) = 3 := rfl
  rw [d3] at *
  generalize (2 : Int) ^ (P + 1) = X at *
  have hr : RF X 3 true = RF X 3 false + 1 := by
    rcases g3 with ⟨_, q⟩ | ⟨q, _⟩
    · omega
    · exact q
  rcases hodd with q | q
  · left
    exact ⟨by congr 1; omega, by congr 1; omega⟩
  · right
    exact ⟨by congr 1; omega, by congr 1; omega⟩
end Go.Ab

/-! contracts of round where nothing is rounded away, Ulp -/
set_option linter.unusedVariables false
set_option linter.unusedSimpArgs false
set_option linter.unusedSectionVars false
namespace Go.Ab
open Go.Proofs

theorem RF_abs (a : Int) {d : Nat} (hd : 0 < d) (up : Bool) : (RF a d up).natAbs ≤ a.natAbs / d + 1 := by
  unfold RF
  have hd' : (0 : Int) < d := by omega
  have h := Int.mul_ediv_add_emod a d
  have h1 := Int.emod_nonneg a (show (d : Int) ≠ 0 by omega)
  have h2 := Int.emod_lt_of_pos a hd'
  have key : -((a.natAbs / d : Nat) : Int) - 1 ≤ a / d ∧ a / d ≤ (a.natAbs / d : Nat) ∧ (a % d ≠ 0 → a / d < (a.natAbs / d : Nat) + 1 ∧ a / d + 1 ≤ (a.natAbs / d : Nat) + 1) := by
    have e := Nat.div_add_mod a.natAbs d
    have e2 := Nat.mod_lt a.natAbs hd
    have e3 : ((d * (a.natAbs / d) : Nat) : Int) = d * ((a.natAbs / d : Nat) : Int) := by push_cast; rfl
    generalize a.natAbs / d = q at *
    generalize a / (d : Int) = z at *
    have l1 : -(q : Int) - 1 ≤ z := by
      refine Int.not_lt.1 (fun g => ?_)
      have := Int.mul_le_mul_of_nonneg_left (show z ≤ -(q : Int) - 2 by omega) (Int.le_of_lt hd')
      rw [Int.mul_sub, Int.mul_neg] at this
      omega
    have l2 : z ≤ q := by
      refine Int.not_lt.1 (fun g => ?_)
      have := Int.mul_le_mul_of_nonneg_left (show (q : Int) + 1 ≤ z by omega) (Int.le_of_lt hd')
      rw [Int.mul_add] at this
      omega
    exact ⟨l1, l2, fun _ => ⟨by omega, by omega⟩⟩
  split
  · omega
  · omega
theorem RF_bits {s : Bool} {m P : Nat} (hP : P < bl m) (up : Bool) : Lt2 (RF (sg s m) (2 ^ (bl m - P)) up).natAbs (P + 1) := by
  unfold Lt2
  refine Nat.lt_of_le_of_lt (RF_abs _ (Nat.two_pow_pos _) up) ?_
  rw [sg_abs]
  have h : m / 2 ^ (bl m - P) < 2 ^ P := Nat.div_lt_of_lt_mul (by rw [← Nat.pow_add, show bl m - P + P = bl m by omega]; exact bl_lt m)
  rw [Nat.pow_succ]
  have := Nat.two_pow_pos P
  omega
theorem dquo_num {a c P N k : Nat} {ex ey : Int} (ha : a ≤ 1300) (hc : c ≤ 1300) (hex : ex.natAbs ≤ 3000) (hey : ey.natAbs ≤ 3000) (hP : P ≤ 400) (hN : N = P + 3 + c - a) (h1 : P < k) (h2 : k ≤ N + a + 2) :
    (ex - ey - N - 1 + (k - P : Nat)).natAbs ≤ 7800 := by omega
theorem dquo_db {x y : Dyadic} {P : Nat} (h0 : x ≠ 0) (h1 : y ≠ 0) (hbx : bl (dnum x).natAbs ≤ 1300) (hby : bl (dnum y).natAbs ≤ 1300) (hex : (dexp x).natAbs ≤ 3000) (hey : (dexp y).natAbs ≤ 3000) (hP1 : 1 ≤ P) (hP : P ≤ 400) (up : Bool) : DB (dquo x y P up) 8201 := by
  obtain ⟨_, _, f3, f4⟩ := dquo_to h0 h1 hP1 up rfl rfl rfl rfl
  unfold dquo
  rw [if_neg (fun q => q.elim h0 h1)]
  exact DB.rawL (L := 401) (E := 7800) (Lt2.mono (RF_bits f3 up) (by omega)) (dquo_num hbx hby hex hey hP rfl f3 f4) (by decide)
theorem droot_num {a P n k : Nat} {ex : Int} (ha : a ≤ 1300) (hex : ex.natAbs ≤ 3000) (hP : P ≤ 400) (hn : n ≤ 2 * P + 7) (h1 : P < k) (h2 : k ≤ a + n + 2) :
    ((ex - n) / 2 - 1 + (k - P : Nat)).natAbs ≤ 7800 := by omega
theorem droot_db {x : Dyadic} {P : Nat} (h0 : 0 < dnum x) (hbx : bl (dnum x).natAbs ≤ 1300) (hex : (dexp x).natAbs ≤ 3000) (hP1 : 1 ≤ P) (hP : P ≤ 400) (up : Bool) : DB (droot x P up) 8201 := by
  obtain ⟨_, _, f3, f4⟩ := droot_to h0 hP1 up rfl rfl
  have hn := (rbitsN_ok (A := (dnum x).natAbs) (P := P) (ex := dexp x)).2.2
  have hr := RF_bits (s := false) f3 up
  unfold droot
  rw [if_neg (Int.not_le.2 h0)]
  exact DB.rawL (L := 401) (E := 7800) (Lt2.mono hr (by omega)) (droot_num hbx hex hP hn f3 f4) (by decide)
theorem rd_raw {n : Bool} {l : List Nat} {e : Int} (hl : Lm l) (h1 : l.length ≤ 20) (h2 : -2000 ≤ e) (h3 : e ≤ 2000) :
    RD (DA n l e) (dv (iv n l) e) 2640 ∧ bl (dnum (dv (iv n l) e)).natAbs ≤ 1300 ∧ (dexp (dv (iv n l) e)).natAbs ≤ 3000 ∧ Lt2 (nv l) 100000 := by
  have hv : Lt2 (nv l) 640 := nv_Lt2 hl h1
  have ha : (iv n l).natAbs = nv l := abs_iv n l
  have hb : bl (iv n l).natAbs ≤ 640 := by rw [ha]; exact hv.bl
  obtain ⟨f1, f2⟩ := Few.of (E := 2000) hb (show e.natAbs ≤ 2000 by omega)
  refine ⟨⟨n, l, e, rfl, hl, rfl, hv.mono (by decide), by omega, by omega, DB.rawL (L := 640) (E := 2000) (by rw [ha]; exact hv) (by omega) (by decide)⟩, by omega, by omega, hv.mono (by decide)⟩
theorem held_min (p : Int) : heldP (min p 400) ≤ 400 := by unfold heldP; omega
section
variable {a b : AV} {x y : Dyadic} {B C : Nat}
theorem unit5 (ha : RD a x B) (hB : B ≤ 20000) (p : Int) : Sat CT false 137 [a, I64 p] (I64 (dtop x - heldP p + 1)) := by
  refine sat_of round_unit.ok (by simp) ?_
  have DD := round_unit.dr
  simp only [drP, drPx, drPt, drR, drS, drT, bodyOf, Tryz.f137, Nat.reduceEqDiff, reduceIte, true_and, and_true] at DD
  have t1 := dtop_r ha hB
  have q1 := held5_sat p
  obtain ⟨_, _, h1, h2⟩ := heldP_v p
  have hb := bl_B ha.db
  have he := ha.db.num.2
  have ht : (dtop x).natAbs ≤ 2 * B + B + 1 := by unfold dtop; split <;> omega
  obtain ⟨n, l, e, rfl, _⟩ := ha
  generalize heldP p = P at *
  have w1 : IntKind.i64.wrap (dtop x - (P : Int)) = dtop x - P := wrap_id (by omega)
  have w2 : IntKind.i64.wrap (dtop x - (P : Int) + 1) = dtop x - P + 1 := wrap_id (by omega)
  simp -implicitDefEqProofs only [go_sem, simprocAttr, -Int.reducePow, Tryz.f137, DD, w1, w2]
  refine callK_q dyad_Top.call (t1) rfl rfl ?_
  simp -implicitDefEqProofs only [go_sem, simprocAttr, -Int.reducePow, DD, w1, w2]
  refine callK_q round_Held.call (q1) rfl rfl ?_
  simp -implicitDefEqProofs only [go_sem, simprocAttr, -Int.reducePow, DD, w1, w2]
theorem grid5 (ha : RD a x B) (hB : B ≤ 20000) (e m : Int) (h : e ≤ dexp x) : Sat CT false 136 [a, I64 e, I64 m] (DI x) := by
  refine sat_of round_grid.ok (by simp) ?_
  have DD := round_grid.dr
  simp only [drP, drPx, drPt, drR, drS, drT, bodyOf, Tryz.f136, Nat.reduceEqDiff, reduceIte, true_and, and_true] at DD
  have n1 := dnorm_r ha hB
  obtain ⟨n, l, e', rfl, _⟩ := ha
  simp -implicitDefEqProofs only [go_sem, simprocAttr, -Int.reducePow, Tryz.f136, DD, h, ge_iff_le]
  refine callK_q dyad_Norm.call (n1) rfl rfl ?_
  simp -implicitDefEqProofs only [go_sem, simprocAttr, -Int.reducePow, DD, h, ge_iff_le]
theorem to5 (ha : RD a x B) (hB : B ≤ 20000) (p m : Int) (h0 : x ≠ 0) (h : bl (dnum x).natAbs ≤ heldP p) : Sat CT false 95 [a, I64 p, I64 m] (DI x) := by
  refine sat_of round_To.ok (by simp) ?_
  have DD := round_To.dr
  simp only [drP, drPx, drPt, drR, drS, drT, bodyOf, Tryz.f95, Nat.reduceEqDiff, reduceIte, true_and, and_true] at DD
  have s1 := dsign_r (RD_D ha.db) hB
  have s1 := dsign_r ha hB
  have u1 := unit5 ha hB p
  have g1 := grid5 ha hB (dtop x - heldP p + 1) m (by unfold dtop; rw [if_neg h0]; omega)
  have c1 := sg_ne h0
  obtain ⟨n, l, e, rfl, _⟩ := ha
  simp -implicitDefEqProofs only [go_sem, simprocAttr, -Int.reducePow, Tryz.f95, DD, c1]
  refine callK_q dyad_Sign.call (s1) rfl rfl ?_
  simp -implicitDefEqProofs only [go_sem, simprocAttr, -Int.reducePow, DD, c1]
  refine callK_q round_unit.call (u1) rfl rfl ?_
  simp -implicitDefEqProofs only [go_sem, simprocAttr, -Int.reducePow, DD, c1]
  refine callK_q round_grid.call (g1) rfl rfl ?_
  simp -implicitDefEqProofs only [go_sem, simprocAttr, -Int.reducePow, DD, c1]
theorem to5_0 (ha : RD a x B) (hB : B ≤ 20000) (p m : Int) (h0 : x = 0) : Sat CT false 95 [a, I64 p, I64 m] (DA false [] 0) := by
  refine sat_of round_To.ok (by simp) ?_
  have DD := round_To.dr
  simp only [drP, drPx, drPt, drR, drS, drT, bodyOf, Tryz.f95, Nat.reduceEqDiff, reduceIte, true_and, and_true] at DD
  have s1 := dsign_r ha hB
  have c1 := sg_zero h0
  obtain ⟨n, l, e, rfl, _⟩ := ha
  simp -implicitDefEqProofs only [go_sem, simprocAttr, -Int.reducePow, Tryz.f95, DD, c1]
  refine callK_q dyad_Sign.call (s1) rfl rfl ?_
  simp -implicitDefEqProofs only [go_sem, simprocAttr, -Int.reducePow, DD, c1]
  rfl
end
theorem rd_raw6 {n : Bool} {l : List Nat} {e : Int} (hl : Lm l) (h1 : l.length ≤ 6) (h2 : -2000 ≤ e) (h3 : e ≤ 2000) :
    RD (DA n l e) (dv (iv n l) e) 2192 ∧ bl (dnum (dv (iv n l) e)).natAbs ≤ 192 := by
  have hv : Lt2 (nv l) 192 := nv_Lt2 hl h1
  have ha : (iv n l).natAbs = nv l := abs_iv n l
  have hb : bl (iv n l).natAbs ≤ 192 := by rw [ha]; exact hv.bl
  obtain ⟨f1, f2⟩ := Few.of (E := 2000) hb (show e.natAbs ≤ 2000 by omega)
  exact ⟨⟨n, l, e, rfl, hl, rfl, hv.mono (by decide), by omega, by omega, DB.rawL (L := 192) (E := 2000) (by rw [ha]; exact hv) (by omega) (by decide)⟩, f1⟩
theorem dab_ok {x : Dyadic} {B : Nat} (h : DB x B) (h0 : x ≠ 0) : DB (dab x) B ∧ 0 < dnum (dab x) ∧ dab x * dab x = x * x ∧ (dnum (dab x)).natAbs = (dnum x).natAbs := by
  have hn : dnum x ≠ 0 := fun e => h0 (dnum_zero.1 e)
  unfold dab
  by_cases g : dnum x < 0
  · rw [if_pos g]
    obtain ⟨e1, _⟩ := dneg_num x
    exact ⟨h.neg, by rw [e1]; omega, by grind, by rw [e1]; omega⟩
  · rw [if_neg g]
    exact ⟨h, by omega, rfl, rfl⟩
theorem dab_0 : dab 0 = 0 := by unfold dab; rw [if_neg (by decide)]
theorem mul_ne {x y : Dyadic} (hx : x ≠ 0) (hy : y ≠ 0) : x * y ≠ 0 := fun e => by
  have := dsg_mul x y
  rw [e, show dsg 0 = 0 from rfl] at this
  rcases Int.mul_eq_zero.1 this.symm with q | q
  · exact hx (dsg_zero.1 q)
  · exact hy (dsg_zero.1 q)
theorem sgn_le (z : Int) : z.sign.natAbs ≤ 1 := by
  rcases Int.lt_trichotomy z 0 with g | g | g
  · rw [Int.sign_eq_neg_one_of_neg g]; decide
  · rw [g]; decide
  · rw [Int.sign_eq_one_of_pos g]; decide
theorem wrap_sgn (z w : Int) : IntKind.i64.wrap (z.sign * w.sign) = z.sign * w.sign := wrap_id (by
  rw [Int.natAbs_mul]
  have h1 := sgn_le z
  have h2 := sgn_le w
  have := Nat.mul_le_mul h1 h2
  omega)
theorem sgn_side {y d : Dyadic} {k : Int} (hy : y ≠ 0) (h : dsg d = dsg y * k) : (dnum y).sign * (dnum d).sign = k := by
  have h2 := dsg_sq hy
  have h3 : (dnum y).sign * (dnum d).sign = dsg y * dsg d := rfl
  rw [h3, h, ← Int.mul_assoc, h2, Int.one_mul]
theorem dab_db {x : Dyadic} {B : Nat} (h : DB x B) : DB (dab x) B := by
  unfold dab; split
  · exact h.neg
  · exact h
theorem dexp_dab (x : Dyadic) : dexp (dab x) = dexp x := by
  unfold dab; split
  · exact (dneg_num x).2
  · rfl
end Go.Ab
