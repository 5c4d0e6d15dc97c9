/- Contracts of this seat's functions (of each call: what it answers), walked over the abstract machine, and the laws of numbers that they want. Conditions: those that each theorem states. -/
import Derived.Test.YtdkdpebfnddfpaaDoorR4
set_option linter.unusedVariables false
set_option maxRecDepth 20000
set_option linter.unusedSimpArgs false
set_option linter.unusedSectionVars false
namespace Go.Ab
open Go.Proofs

theorem DB.W {x : Dyadic} {B : Nat} (h : DB x B) : RI (WI (dnum x)) (dnum x) B := RI_W h.lim
theorem two_bound {z : Int} {k j m : Nat} (h : z.natAbs < 2 ^ k) (hm : k + j ≤ m) : Lt2 (z * 2 ^ j).natAbs m := by
  unfold Lt2
  rw [Int.natAbs_mul, Int.natAbs_pow]
  refine Nat.lt_of_lt_of_le (Nat.mul_lt_mul_of_pos_right h (Nat.two_pow_pos j)) ?_
  show 2 ^ k * 2 ^ j ≤ 2 ^ m
  rw [← Nat.pow_add]
  exact Nat.pow_le_pow_right (by decide) hm
theorem Lz_two {z : Int} {L j : Nat} (h : Lz z ≤ L) : Lz (z * 2 ^ j) ≤ L + (j / 32 + 1) := by
  refine Lz_mul h ?_
  unfold Lz
  rw [Int.natAbs_pow]
  exact lim_pow2 j
theorem fq_abs {a d : Int} (hd : 0 < d) : (fq a d).natAbs ≤ a.natAbs := by
  have e : fq a d = a / d := if_pos hd
  rw [e]; exact Int.natAbs_ediv_le_natAbs a d
theorem dtop_n0 {x : Dyadic} (h : x ≠ 0) : dtop x = (bl (dnum x).natAbs : Nat) - 1 + dexp x := by unfold dtop; rw [if_neg h]
theorem qdiv_num1 {a c p1 p2 : Nat} {ex ey tx ty : Int} (ha : a ≤ 10000) (hc : c ≤ 10000) (hex : ex.natAbs ≤ 5000) (hey : ey.natAbs ≤ 5000) (htx : tx = (a : Nat) - 1 + ex) (hty : ty = (c : Nat) - 1 + ey) (hp1 : p1 = c - a) (hp2 : p2 = a - c) :
    IntKind.i64.wrap (tx - ty) = tx - ty ∧ IntKind.i64.wrap ((a : Int) - (c : Int)) = (a : Int) - (c : Int) ∧ IntKind.i64.wrap (0 - ((a : Int) - (c : Int))) = -((a : Int) - (c : Int)) ∧ max (-((a : Int) - (c : Int))) 0 = (p1 : Int) ∧ max ((a : Int) - (c : Int)) 0 = (p2 : Int) ∧
    a + p1 = c + p2 ∧ p1 ≤ 10000 ∧ p2 ≤ 10000 ∧ IntKind.i64.wrap (tx - ty - 1) = tx - ty - 1 := by
  refine ⟨wrap_id (by omega), wrap_id (by omega), by rw [wrap_id (by omega)]; omega, by omega, by omega, by omega, by omega, by omega, wrap_id (by omega)⟩
theorem qdiv_num2 {a c p1 p2 P : Nat} {ex ey tx ty T tt δ : Int} (ha : a ≤ 10000) (hc : c ≤ 10000) (hex : ex.natAbs ≤ 5000) (hey : ey.natAbs ≤ 5000) (htx : tx = (a : Nat) - 1 + ex) (hty : ty = (c : Nat) - 1 + ey) (hp1 : p1 = c - a) (hp2 : p2 = a - c)
    (hP : P ≤ 4000) (hδ : δ = 0 ∨ δ = 1) (hT : T = p2 - p1 - δ) (htt : tt = tx - ty - δ) :
    ∃ u w : Nat, (u = 0 ∨ w = 0) ∧ (u : Int) - w = P - 1 - T ∧ IntKind.i64.wrap tt = tt ∧ IntKind.i64.wrap (tt - P) = tt - P ∧ IntKind.i64.wrap (tt - P + 1) = tt - P + 1 ∧ IntKind.i64.wrap (ex - ey) = ex - ey ∧
    IntKind.i64.wrap (ex - ey - (tt - P + 1)) = (u : Int) - w ∧ IntKind.i64.wrap (0 - ((u : Int) - w)) = -((u : Int) - w) ∧ max ((u : Int) - w) 0 = u ∧ max (-((u : Int) - w)) 0 = w ∧ u ≤ 20000 ∧ w ≤ 20000 ∧
    (tt - P + 1).natAbs ≤ 1000000000 ∧ ex - ey + T - P + 1 = tt - P + 1 := by
  have e : ex - ey - (tt - P + 1) = P - 1 - T := by omega
  have hb : (tt - P + 1).natAbs ≤ 100000 := by omega
  have hTb : T.natAbs ≤ 10001 := by omega
  have hf : ex - ey + T - P + 1 = tt - P + 1 := by omega
  have ht : tt.natAbs ≤ 100000 := by omega
  have hee : (ex - ey).natAbs ≤ 10000 := by omega
  rw [e]
  clear e htt hT htx hty hp1 hp2 hδ ha hc hex hey
  refine ⟨((P : Int) - 1 - T).toNat, (-((P : Int) - 1 - T)).toNat, by omega, by omega, wrap_id (by omega), wrap_id (by omega), wrap_id (by omega), wrap_id (by omega), ?_, by rw [wrap_id (by omega)]; omega, by omega, by omega, by omega, by omega, by omega, hf⟩
  rw [wrap_id (by omega)]; omega
section
variable {a b : AV} {x y : Dyadic} {B C : Nat}

set_option maxHeartbeats 4000000 in
theorem qdiv_ok (ha : RD a x B) (hb : RD b y C) (hx : x ≠ 0) (hy : y ≠ 0) (hB : B ≤ 5000) (hC : C ≤ 5000) (p m : Int) : Sat CT false 13 [a, b, I64 p, I64 m] (.tup [DI (dquo x y (heldP p) (decide (m = 1))), I64 0]) := by
  refine sat_of quot_Div.ok (by simp) ?_
  have DD := quot_Div.dr
  simp only [drP, drPx, drPt, drR, drS, drT, bodyOf, Tryd.f13, Nat.reduceEqDiff, reduceIte, true_and, and_true] at DD
  have hB2 : B ≤ 20000 := Nat.le_trans hB (by decide)
  have hC2 : C ≤ 20000 := Nat.le_trans hC (by decide)
  have n1 := dnorm_r ha hB2
  have n2 := dnorm_r hb hC2
  have s1 := dsign_r (RD_D hb.db) hC2
  have s2 := dsign_r (RD_D ha.db) hB2
  have c1 := sg_ne hy
  have c2 := sg_ne hx
  have q1 := held5_sat p
  obtain ⟨_, _, hP1, hP2⟩ := heldP_v p
  have hdx := ha.db
  have hdy := hb.db
  obtain ⟨n', l', e', rfl, _⟩ := ha
  obtain ⟨n'', l'', e'', rfl, _⟩ := hb
  have nx : dnum x ≠ 0 := fun e => hx (dnum_zero.1 e)
  have ny : dnum y ≠ 0 := fun e => hy (dnum_zero.1 e)
  generalize hP : heldP p = P at *
  by_cases hn : dnum y < 0
  · have hXY : (dnum y < 0 ∧ (-x) = -x ∧ (-y) = -y) ∨ (¬ dnum y < 0 ∧ (-x) = x ∧ (-y) = y) := .inl ⟨hn, rfl, rfl⟩
    have c0 := decide_eq_true hn
    simp only [DI, WI, c0] at s1
    have g1 := dneg_r (RD_D hdx) hB2
    have g2 := dneg_r (RD_D hdy) hC2
    simp only [DI, WI, c0] at g2
    have hdX : DB (-x) B := hdx.neg
    have hdY : DB (-y) C := hdy.neg
    have pY : 0 < dnum (-y) := by rw [(dneg_num y).1]; exact Int.neg_pos_of_neg hn
    have nX : dnum (-x) ≠ 0 := by rw [(dneg_num x).1]; exact fun e => nx (Int.neg_eq_zero.1 e)
    have zX : (-x) ≠ 0 := fun e => nX (by rw [e]; rfl)
    have zY : (-y) ≠ 0 := fun e => by rw [e] at pY; exact absurd pY (by decide)
    have t1 := dtop_r (RD_D hdX) hB2
    have t2 := dtop_r (RD_D hdY) hC2
    have hlX := Nat.le_trans hdX.lim hB
    have hlY := Nat.le_trans hdY.lim hC
    have hbX : bl (dnum (-x)).natAbs ≤ 10000 := Nat.le_trans (bl_B hdX) (Nat.mul_le_mul_left 2 hB)
    have hbY : bl (dnum (-y)).natAbs ≤ 10000 := Nat.le_trans (bl_B hdY) (Nat.mul_le_mul_left 2 hC)
    have heX := Nat.le_trans hdX.num.2 hB
    have heY := Nat.le_trans hdY.num.2 hC
    have haX := hdX.num.1
    have b1 := bits_sat (lim (dnum (-x)).natAbs) (Lm_lim _) (le_lt hlX (by decide))
    have b2 := bits_sat (lim (dnum (-y)).natAbs) (Lm_lim _) (le_lt hlY (by decide))
    rw [nv_lim] at b1 b2
    obtain ⟨p1, hp1⟩ : ∃ p1 : Nat, p1 = bl (dnum (-y)).natAbs - bl (dnum (-x)).natAbs := ⟨_, rfl⟩
    obtain ⟨p2, hp2⟩ : ∃ p2 : Nat, p2 = bl (dnum (-x)).natAbs - bl (dnum (-y)).natAbs := ⟨_, rfl⟩
    obtain ⟨w1, w2, w3, e1, e2, hpp, e3, e4, wx⟩ := qdiv_num1 hbX hbY heX heY (dtop_n0 zX) (dtop_n0 zY) hp1 hp2
    have u1 := up_int (lim (dnum (-x)).natAbs) (-(((bl (dnum (-x)).natAbs : Nat) : Int) - ((bl (dnum (-y)).natAbs : Nat) : Int))) p1 e1 (Lm_lim _) (le_lt hlX (by decide)) (Nat.le_trans e3 (by decide))
    have u2 := up_int (lim (dnum (-y)).natAbs) (((bl (dnum (-x)).natAbs : Nat) : Int) - ((bl (dnum (-y)).natAbs : Nat) : Int)) p2 e2 (Lm_lim _) (le_lt hlY (by decide)) (Nat.le_trans e4 (by decide))
    have z1 := Nat.le_trans (lim_shl_len (Lm_lim (dnum (-x)).natAbs) hlX p1) (Nat.add_le_add_left (Nat.add_le_add_right (Nat.div_le_div_right e3) 1) _)
    have z2 := Nat.le_trans (lim_shl_len (Lm_lim (dnum (-y)).natAbs) hlY p2) (Nat.add_le_add_left (Nat.add_le_add_right (Nat.div_le_div_right e4) 1) _)
    rw [nv_lim] at u1 u2 z1 z2
    have k1 := cmp_sat (lim ((dnum (-x)).natAbs * 2 ^ p1)) (lim ((dnum (-y)).natAbs * 2 ^ p2)) (Lm_lim _) (Lm_lim _) (le_lt z1 (by decide)) (le_lt z2 (by decide))
    rw [nv_lim, nv_lim] at k1
    have hsp : ∃ δ tt : Int, (δ = 0 ∨ δ = 1) ∧ tt = dtop (-x) - dtop (-y) - δ ∧ δ = (if (dnum (-x)).natAbs * 2 ^ p1 < (dnum (-y)).natAbs * 2 ^ p2 then 1 else 0) ∧
        ((cmpN ((dnum (-x)).natAbs * 2 ^ p1) ((dnum (-y)).natAbs * 2 ^ p2) < 0 ∧ IntKind.i64.wrap (dtop (-x) - dtop (-y) - 1) = tt) ∨ (¬ cmpN ((dnum (-x)).natAbs * 2 ^ p1) ((dnum (-y)).natAbs * 2 ^ p2) < 0 ∧ dtop (-x) - dtop (-y) = tt)) := by
      by_cases hlt : (dnum (-x)).natAbs * 2 ^ p1 < (dnum (-y)).natAbs * 2 ^ p2
      · exact ⟨1, _, .inr rfl, rfl, (if_pos hlt).symm, .inl ⟨cmpN_neg.2 hlt, wx⟩⟩
      · exact ⟨0, _, .inl rfl, rfl, (if_neg hlt).symm, .inr ⟨fun e => hlt (cmpN_neg.1 e), (Int.sub_zero _).symm⟩⟩
    obtain ⟨δ, tt, hδ, htt, hif, hcl⟩ := hsp
    have hT : ((p2 : Int) - p1 - δ) = (p2 : Int) - p1 - (if (dnum (-x)).natAbs * 2 ^ p1 < (dnum (-y)).natAbs * 2 ^ p2 then 1 else 0) := by rw [hif]
    obtain ⟨u, w, huw, hup, w4, w5, w6, w7, w8, w9, e5, e6, e7, e8, e9, e10⟩ := qdiv_num2 (P := P) (T := ((p2 : Int) - p1 - δ)) (tt := tt) (δ := δ) hbX hbY heX heY (dtop_n0 zX) (dtop_n0 zY) hp1 hp2 hP2 hδ rfl htt
    have m1 := wup_int (decide (dnum (-x) < 0)) (lim (dnum (-x)).natAbs) ((u : Int) - w) u e5 (Lm_lim _) (le_lt hlX (by decide)) (Nat.le_trans e7 (by decide))
    have m2 := wup_int (decide (dnum (-y) < 0)) (lim (dnum (-y)).natAbs) (-((u : Int) - w)) w e6 (Lm_lim _) (le_lt hlY (by decide)) (Nat.le_trans e8 (by decide))
    rw [iv_num] at m1 m2
    skip
    have pd : 0 < dnum (-y) * 2 ^ w := Int.mul_pos pY (Int.pow_pos (by decide))
    have pd' : dnum (-y) * 2 ^ w ≠ 0 := Int.ne_of_gt pd
    have zz1 := Nat.le_trans (Lz_two (z := dnum (-x)) (L := 5000) (j := u) hlX) (Nat.add_le_add_left (Nat.add_le_add_right (Nat.div_le_div_right e7) 1) _)
    have zz2 := Nat.le_trans (Lz_two (z := dnum (-y)) (L := 5000) (j := w) hlY) (Nat.add_le_add_left (Nat.add_le_add_right (Nat.div_le_div_right e8) 1) _)
    have d1 := div_r (RI_W zz1) (RI_W zz2) pd' (by decide) (by decide)
    have v1 := sign_r (RI_W (z := fr (dnum (-x) * 2 ^ u) (dnum (-y) * 2 ^ w)) (Lz_fr pd' zz2)) (by decide)
    have lq := Lz_fq (d := dnum (-y) * 2 ^ w) pd' zz1
    have bq : Lt2 (fq (dnum (-x) * 2 ^ u) (dnum (-y) * 2 ^ w)).natAbs 99999 := Lt2.low (fq_abs pd) (two_bound (k := 2 * B) (j := u) haX (Nat.le_trans (Nat.add_le_add (Nat.mul_le_mul_left 2 hB) e7) (by decide)))
    have td := told_sat (fq (dnum (-x) * 2 ^ u) (dnum (-y) * 2 ^ w)) (tt - P + 1) m (decide (fr (dnum (-x) * 2 ^ u) (dnum (-y) * 2 ^ w) = 0)) bq (le_lt lq (by decide)) e9
    rw [RF_fq _ _ pd] at td
    have hfin := dquo_eq hx hy hXY (P := P) hP1 hpp hT huw hup (decide (m = 1))
    rw [e10] at hfin
    rw [hfin] at td
    have cs : decide ((fr (dnum (-x) * 2 ^ u) (dnum (-y) * 2 ^ w)).sign = 0) = decide (fr (dnum (-x) * 2 ^ u) (dnum (-y) * 2 ^ w) = 0) := by simp only [Int.sign_eq_zero_iff_zero]
    clear hfin pd pd' zz1 zz2 lq bq z1 z2 e1 e2 e3 e4 e5 e6 e7 e8 e9 e10 hpp hup huw hT htt hif hδ wx
    rcases hcl with ⟨cl, wl⟩ | ⟨cl, wl⟩ <;>
      (skip
       simp -implicitDefEqProofs only [go_sem, Nat.reduceAdd, Nat.reduceEqDiff, Nat.reduceLT, reduceIte, reduceCtorEq, Int.reduceLE, Int.reduceLT, Int.reduceEq, Int.reduceAdd, Int.reduceMul, Int.reduceSub, Nat.reduceMul, Nat.reduceSub, Nat.reducePow, Nat.reduceLeDiff, Int.reduceToNat, Tryd.f13, DD, c1, c2, c0, cl, wl, w1, w2, w3, w4, w5, w6, w7, w8, w9, cs]
       refine callK_q dyad_Norm.call (n1) rfl rfl ?_
       simp -implicitDefEqProofs only [go_sem, Nat.reduceAdd, Nat.reduceEqDiff, Nat.reduceLT, reduceIte, reduceCtorEq, Int.reduceLE, Int.reduceLT, Int.reduceEq, Int.reduceAdd, Int.reduceMul, Int.reduceSub, Nat.reduceMul, Nat.reduceSub, Nat.reducePow, Nat.reduceLeDiff, Int.reduceToNat, DD, c1, c2, c0, cl, wl, w1, w2, w3, w4, w5, w6, w7, w8, w9, cs]
       refine callK_q dyad_Norm.call (n2) rfl rfl ?_
       simp -implicitDefEqProofs only [go_sem, Nat.reduceAdd, Nat.reduceEqDiff, Nat.reduceLT, reduceIte, reduceCtorEq, Int.reduceLE, Int.reduceLT, Int.reduceEq, Int.reduceAdd, Int.reduceMul, Int.reduceSub, Nat.reduceMul, Nat.reduceSub, Nat.reducePow, Nat.reduceLeDiff, Int.reduceToNat, DD, c1, c2, c0, cl, wl, w1, w2, w3, w4, w5, w6, w7, w8, w9, cs]
       refine callK_q dyad_Sign.call (s1) rfl rfl ?_
       simp -implicitDefEqProofs only [go_sem, Nat.reduceAdd, Nat.reduceEqDiff, Nat.reduceLT, reduceIte, reduceCtorEq, Int.reduceLE, Int.reduceLT, Int.reduceEq, Int.reduceAdd, Int.reduceMul, Int.reduceSub, Nat.reduceMul, Nat.reduceSub, Nat.reducePow, Nat.reduceLeDiff, Int.reduceToNat, DD, c1, c2, c0, cl, wl, w1, w2, w3, w4, w5, w6, w7, w8, w9, cs]
       refine callK_q dyad_Sign.call (s2) rfl rfl ?_
       simp -implicitDefEqProofs only [go_sem, Nat.reduceAdd, Nat.reduceEqDiff, Nat.reduceLT, reduceIte, reduceCtorEq, Int.reduceLE, Int.reduceLT, Int.reduceEq, Int.reduceAdd, Int.reduceMul, Int.reduceSub, Nat.reduceMul, Nat.reduceSub, Nat.reducePow, Nat.reduceLeDiff, Int.reduceToNat, DD, c1, c2, c0, cl, wl, w1, w2, w3, w4, w5, w6, w7, w8, w9, cs]
       refine callK_q dyad_Neg.call (g1) rfl rfl ?_
       simp -implicitDefEqProofs only [go_sem, Nat.reduceAdd, Nat.reduceEqDiff, Nat.reduceLT, reduceIte, reduceCtorEq, Int.reduceLE, Int.reduceLT, Int.reduceEq, Int.reduceAdd, Int.reduceMul, Int.reduceSub, Nat.reduceMul, Nat.reduceSub, Nat.reducePow, Nat.reduceLeDiff, Int.reduceToNat, DD, c1, c2, c0, cl, wl, w1, w2, w3, w4, w5, w6, w7, w8, w9, cs]
       refine callK_q dyad_Neg.call (g2) rfl rfl ?_
       simp -implicitDefEqProofs only [go_sem, Nat.reduceAdd, Nat.reduceEqDiff, Nat.reduceLT, reduceIte, reduceCtorEq, Int.reduceLE, Int.reduceLT, Int.reduceEq, Int.reduceAdd, Int.reduceMul, Int.reduceSub, Nat.reduceMul, Nat.reduceSub, Nat.reducePow, Nat.reduceLeDiff, Int.reduceToNat, DD, c1, c2, c0, cl, wl, w1, w2, w3, w4, w5, w6, w7, w8, w9, cs]
       refine callK_q dyad_Top.call (t1) rfl rfl ?_
       simp -implicitDefEqProofs only [go_sem, Nat.reduceAdd, Nat.reduceEqDiff, Nat.reduceLT, reduceIte, reduceCtorEq, Int.reduceLE, Int.reduceLT, Int.reduceEq, Int.reduceAdd, Int.reduceMul, Int.reduceSub, Nat.reduceMul, Nat.reduceSub, Nat.reducePow, Nat.reduceLeDiff, Int.reduceToNat, DD, c1, c2, c0, cl, wl, w1, w2, w3, w4, w5, w6, w7, w8, w9, cs]
       refine callK_q dyad_Top.call (t2) rfl rfl ?_
       simp -implicitDefEqProofs only [go_sem, Nat.reduceAdd, Nat.reduceEqDiff, Nat.reduceLT, reduceIte, reduceCtorEq, Int.reduceLE, Int.reduceLT, Int.reduceEq, Int.reduceAdd, Int.reduceMul, Int.reduceSub, Nat.reduceMul, Nat.reduceSub, Nat.reducePow, Nat.reduceLeDiff, Int.reduceToNat, DD, c1, c2, c0, cl, wl, w1, w2, w3, w4, w5, w6, w7, w8, w9, cs]
       refine callK_q nat_Bits.call (b1) rfl rfl ?_
       simp -implicitDefEqProofs only [go_sem, Nat.reduceAdd, Nat.reduceEqDiff, Nat.reduceLT, reduceIte, reduceCtorEq, Int.reduceLE, Int.reduceLT, Int.reduceEq, Int.reduceAdd, Int.reduceMul, Int.reduceSub, Nat.reduceMul, Nat.reduceSub, Nat.reducePow, Nat.reduceLeDiff, Int.reduceToNat, DD, c1, c2, c0, cl, wl, w1, w2, w3, w4, w5, w6, w7, w8, w9, cs]
       refine callK_q nat_Bits.call (b2) rfl rfl ?_
       simp -implicitDefEqProofs only [go_sem, Nat.reduceAdd, Nat.reduceEqDiff, Nat.reduceLT, reduceIte, reduceCtorEq, Int.reduceLE, Int.reduceLT, Int.reduceEq, Int.reduceAdd, Int.reduceMul, Int.reduceSub, Nat.reduceMul, Nat.reduceSub, Nat.reducePow, Nat.reduceLeDiff, Int.reduceToNat, DD, c1, c2, c0, cl, wl, w1, w2, w3, w4, w5, w6, w7, w8, w9, cs]
       refine callK_q nat_Up.call (u1) rfl rfl ?_
       simp -implicitDefEqProofs only [go_sem, Nat.reduceAdd, Nat.reduceEqDiff, Nat.reduceLT, reduceIte, reduceCtorEq, Int.reduceLE, Int.reduceLT, Int.reduceEq, Int.reduceAdd, Int.reduceMul, Int.reduceSub, Nat.reduceMul, Nat.reduceSub, Nat.reducePow, Nat.reduceLeDiff, Int.reduceToNat, DD, c1, c2, c0, cl, wl, w1, w2, w3, w4, w5, w6, w7, w8, w9, cs]
       refine callK_q nat_Up.call (u2) rfl rfl ?_
       simp -implicitDefEqProofs only [go_sem, Nat.reduceAdd, Nat.reduceEqDiff, Nat.reduceLT, reduceIte, reduceCtorEq, Int.reduceLE, Int.reduceLT, Int.reduceEq, Int.reduceAdd, Int.reduceMul, Int.reduceSub, Nat.reduceMul, Nat.reduceSub, Nat.reducePow, Nat.reduceLeDiff, Int.reduceToNat, DD, c1, c2, c0, cl, wl, w1, w2, w3, w4, w5, w6, w7, w8, w9, cs]
       refine callK_q nat_Cmp.call (k1) rfl rfl ?_
       simp -implicitDefEqProofs only [go_sem, Nat.reduceAdd, Nat.reduceEqDiff, Nat.reduceLT, reduceIte, reduceCtorEq, Int.reduceLE, Int.reduceLT, Int.reduceEq, Int.reduceAdd, Int.reduceMul, Int.reduceSub, Nat.reduceMul, Nat.reduceSub, Nat.reducePow, Nat.reduceLeDiff, Int.reduceToNat, DD, c1, c2, c0, cl, wl, w1, w2, w3, w4, w5, w6, w7, w8, w9, cs]
       refine callK_q round_Held.call (q1) rfl rfl ?_
       simp -implicitDefEqProofs only [go_sem, Nat.reduceAdd, Nat.reduceEqDiff, Nat.reduceLT, reduceIte, reduceCtorEq, Int.reduceLE, Int.reduceLT, Int.reduceEq, Int.reduceAdd, Int.reduceMul, Int.reduceSub, Nat.reduceMul, Nat.reduceSub, Nat.reducePow, Nat.reduceLeDiff, Int.reduceToNat, DD, c1, c2, c0, cl, wl, w1, w2, w3, w4, w5, w6, w7, w8, w9, cs]
       refine callK_q whole_Up.call (m1) rfl rfl ?_
       simp -implicitDefEqProofs only [go_sem, Nat.reduceAdd, Nat.reduceEqDiff, Nat.reduceLT, reduceIte, reduceCtorEq, Int.reduceLE, Int.reduceLT, Int.reduceEq, Int.reduceAdd, Int.reduceMul, Int.reduceSub, Nat.reduceMul, Nat.reduceSub, Nat.reducePow, Nat.reduceLeDiff, Int.reduceToNat, DD, c1, c2, c0, cl, wl, w1, w2, w3, w4, w5, w6, w7, w8, w9, cs]
       refine callK_q whole_Up.call (m2) rfl rfl ?_
       simp -implicitDefEqProofs only [go_sem, Nat.reduceAdd, Nat.reduceEqDiff, Nat.reduceLT, reduceIte, reduceCtorEq, Int.reduceLE, Int.reduceLT, Int.reduceEq, Int.reduceAdd, Int.reduceMul, Int.reduceSub, Nat.reduceMul, Nat.reduceSub, Nat.reducePow, Nat.reduceLeDiff, Int.reduceToNat, DD, c1, c2, c0, cl, wl, w1, w2, w3, w4, w5, w6, w7, w8, w9, cs]
       refine callK_q whole_Div.call (d1) rfl rfl ?_
       simp -implicitDefEqProofs only [go_sem, Nat.reduceAdd, Nat.reduceEqDiff, Nat.reduceLT, reduceIte, reduceCtorEq, Int.reduceLE, Int.reduceLT, Int.reduceEq, Int.reduceAdd, Int.reduceMul, Int.reduceSub, Nat.reduceMul, Nat.reduceSub, Nat.reducePow, Nat.reduceLeDiff, Int.reduceToNat, DD, c1, c2, c0, cl, wl, w1, w2, w3, w4, w5, w6, w7, w8, w9, cs]
       refine callK_q whole_Sign.call (v1) rfl rfl ?_
       simp -implicitDefEqProofs only [go_sem, Nat.reduceAdd, Nat.reduceEqDiff, Nat.reduceLT, reduceIte, reduceCtorEq, Int.reduceLE, Int.reduceLT, Int.reduceEq, Int.reduceAdd, Int.reduceMul, Int.reduceSub, Nat.reduceMul, Nat.reduceSub, Nat.reducePow, Nat.reduceLeDiff, Int.reduceToNat, DD, c1, c2, c0, cl, wl, w1, w2, w3, w4, w5, w6, w7, w8, w9, cs]
       refine callK_q quot_told.call (td) rfl rfl ?_
       simp -implicitDefEqProofs only [go_sem, Nat.reduceAdd, Nat.reduceEqDiff, Nat.reduceLT, reduceIte, reduceCtorEq, Int.reduceLE, Int.reduceLT, Int.reduceEq, Int.reduceAdd, Int.reduceMul, Int.reduceSub, Nat.reduceMul, Nat.reduceSub, Nat.reducePow, Nat.reduceLeDiff, Int.reduceToNat, DD, c1, c2, c0, cl, wl, w1, w2, w3, w4, w5, w6, w7, w8, w9, cs])
  · have hXY : (dnum y < 0 ∧ x = -x ∧ y = -y) ∨ (¬ dnum y < 0 ∧ x = x ∧ y = y) := .inr ⟨hn, rfl, rfl⟩
    have c0 := decide_eq_false hn
    simp only [DI, WI, c0] at s1
    have hdX := hdx
    have hdY := hdy
    have pY : 0 < dnum y := Int.lt_iff_le_and_ne.2 ⟨Int.not_lt.1 hn, Ne.symm ny⟩
    have nX := nx
    have zX := hx
    have zY := hy
    have t1 := dtop_r (RD_D hdX) hB2
    have t2 := dtop_r (RD_D hdY) hC2
    have hlX := Nat.le_trans hdX.lim hB
    have hlY := Nat.le_trans hdY.lim hC
    have hbX : bl (dnum x).natAbs ≤ 10000 := Nat.le_trans (bl_B hdX) (Nat.mul_le_mul_left 2 hB)
    have hbY : bl (dnum y).natAbs ≤ 10000 := Nat.le_trans (bl_B hdY) (Nat.mul_le_mul_left 2 hC)
    have heX := Nat.le_trans hdX.num.2 hB
    have heY := Nat.le_trans hdY.num.2 hC
    have haX := hdX.num.1
    have b1 := bits_sat (lim (dnum x).natAbs) (Lm_lim _) (le_lt hlX (by decide))
    have b2 := bits_sat (lim (dnum y).natAbs) (Lm_lim _) (le_lt hlY (by decide))
    rw [nv_lim] at b1 b2
    obtain ⟨p1, hp1⟩ : ∃ p1 : Nat, p1 = bl (dnum y).natAbs - bl (dnum x).natAbs := ⟨_, rfl⟩
    obtain ⟨p2, hp2⟩ : ∃ p2 : Nat, p2 = bl (dnum x).natAbs - bl (dnum y).natAbs := ⟨_, rfl⟩
    obtain ⟨w1, w2, w3, e1, e2, hpp, e3, e4, wx⟩ := qdiv_num1 hbX hbY heX heY (dtop_n0 zX) (dtop_n0 zY) hp1 hp2
    have u1 := up_int (lim (dnum x).natAbs) (-(((bl (dnum x).natAbs : Nat) : Int) - ((bl (dnum y).natAbs : Nat) : Int))) p1 e1 (Lm_lim _) (le_lt hlX (by decide)) (Nat.le_trans e3 (by decide))
    have u2 := up_int (lim (dnum y).natAbs) (((bl (dnum x).natAbs : Nat) : Int) - ((bl (dnum y).natAbs : Nat) : Int)) p2 e2 (Lm_lim _) (le_lt hlY (by decide)) (Nat.le_trans e4 (by decide))
    have z1 := Nat.le_trans (lim_shl_len (Lm_lim (dnum x).natAbs) hlX p1) (Nat.add_le_add_left (Nat.add_le_add_right (Nat.div_le_div_right e3) 1) _)
    have z2 := Nat.le_trans (lim_shl_len (Lm_lim (dnum y).natAbs) hlY p2) (Nat.add_le_add_left (Nat.add_le_add_right (Nat.div_le_div_right e4) 1) _)
    rw [nv_lim] at u1 u2 z1 z2
    have k1 := cmp_sat (lim ((dnum x).natAbs * 2 ^ p1)) (lim ((dnum y).natAbs * 2 ^ p2)) (Lm_lim _) (Lm_lim _) (le_lt z1 (by decide)) (le_lt z2 (by decide))
    rw [nv_lim, nv_lim] at k1
    simp only [DI, WI, c0] at t2
    have hsp : ∃ δ tt : Int, (δ = 0 ∨ δ = 1) ∧ tt = dtop x - dtop y - δ ∧ δ = (if (dnum x).natAbs * 2 ^ p1 < (dnum y).natAbs * 2 ^ p2 then 1 else 0) ∧
        ((cmpN ((dnum x).natAbs * 2 ^ p1) ((dnum y).natAbs * 2 ^ p2) < 0 ∧ IntKind.i64.wrap (dtop x - dtop y - 1) = tt) ∨ (¬ cmpN ((dnum x).natAbs * 2 ^ p1) ((dnum y).natAbs * 2 ^ p2) < 0 ∧ dtop x - dtop y = tt)) := by
      by_cases hlt : (dnum x).natAbs * 2 ^ p1 < (dnum y).natAbs * 2 ^ p2
      · exact ⟨1, _, .inr rfl, rfl, (if_pos hlt).symm, .inl ⟨cmpN_neg.2 hlt, wx⟩⟩
      · exact ⟨0, _, .inl rfl, rfl, (if_neg hlt).symm, .inr ⟨fun e => hlt (cmpN_neg.1 e), (Int.sub_zero _).symm⟩⟩
    obtain ⟨δ, tt, hδ, htt, hif, hcl⟩ := hsp
    have hT : ((p2 : Int) - p1 - δ) = (p2 : Int) - p1 - (if (dnum x).natAbs * 2 ^ p1 < (dnum y).natAbs * 2 ^ p2 then 1 else 0) := by rw [hif]
    obtain ⟨u, w, huw, hup, w4, w5, w6, w7, w8, w9, e5, e6, e7, e8, e9, e10⟩ := qdiv_num2 (P := P) (T := ((p2 : Int) - p1 - δ)) (tt := tt) (δ := δ) hbX hbY heX heY (dtop_n0 zX) (dtop_n0 zY) hp1 hp2 hP2 hδ rfl htt
    have m1 := wup_int (decide (dnum x < 0)) (lim (dnum x).natAbs) ((u : Int) - w) u e5 (Lm_lim _) (le_lt hlX (by decide)) (Nat.le_trans e7 (by decide))
    have m2 := wup_int (decide (dnum y < 0)) (lim (dnum y).natAbs) (-((u : Int) - w)) w e6 (Lm_lim _) (le_lt hlY (by decide)) (Nat.le_trans e8 (by decide))
    rw [iv_num] at m1 m2
    simp only [c0] at m2
    have pd : 0 < dnum y * 2 ^ w := Int.mul_pos pY (Int.pow_pos (by decide))
    have pd' : dnum y * 2 ^ w ≠ 0 := Int.ne_of_gt pd
    have zz1 := Nat.le_trans (Lz_two (z := dnum x) (L := 5000) (j := u) hlX) (Nat.add_le_add_left (Nat.add_le_add_right (Nat.div_le_div_right e7) 1) _)
    have zz2 := Nat.le_trans (Lz_two (z := dnum y) (L := 5000) (j := w) hlY) (Nat.add_le_add_left (Nat.add_le_add_right (Nat.div_le_div_right e8) 1) _)
    have d1 := div_r (RI_W zz1) (RI_W zz2) pd' (by decide) (by decide)
    have v1 := sign_r (RI_W (z := fr (dnum x * 2 ^ u) (dnum y * 2 ^ w)) (Lz_fr pd' zz2)) (by decide)
    have lq := Lz_fq (d := dnum y * 2 ^ w) pd' zz1
    have bq : Lt2 (fq (dnum x * 2 ^ u) (dnum y * 2 ^ w)).natAbs 99999 := Lt2.low (fq_abs pd) (two_bound (k := 2 * B) (j := u) haX (Nat.le_trans (Nat.add_le_add (Nat.mul_le_mul_left 2 hB) e7) (by decide)))
    have td := told_sat (fq (dnum x * 2 ^ u) (dnum y * 2 ^ w)) (tt - P + 1) m (decide (fr (dnum x * 2 ^ u) (dnum y * 2 ^ w) = 0)) bq (le_lt lq (by decide)) e9
    rw [RF_fq _ _ pd] at td
    have hfin := dquo_eq hx hy hXY (P := P) hP1 hpp hT huw hup (decide (m = 1))
    rw [e10] at hfin
    rw [hfin] at td
    have cs : decide ((fr (dnum x * 2 ^ u) (dnum y * 2 ^ w)).sign = 0) = decide (fr (dnum x * 2 ^ u) (dnum y * 2 ^ w) = 0) := by simp only [Int.sign_eq_zero_iff_zero]
    clear hfin pd pd' zz1 zz2 lq bq z1 z2 e1 e2 e3 e4 e5 e6 e7 e8 e9 e10 hpp hup huw hT htt hif hδ wx
    rcases hcl with ⟨cl, wl⟩ | ⟨cl, wl⟩ <;>
      (skip
       simp -implicitDefEqProofs only [go_sem, Nat.reduceAdd, Nat.reduceEqDiff, Nat.reduceLT, reduceIte, reduceCtorEq, Int.reduceLE, Int.reduceLT, Int.reduceEq, Int.reduceAdd, Int.reduceMul, Int.reduceSub, Nat.reduceMul, Nat.reduceSub, Nat.reducePow, Nat.reduceLeDiff, Int.reduceToNat, Tryd.f13, DD, c1, c2, c0, cl, wl, w1, w2, w3, w4, w5, w6, w7, w8, w9, cs]
       refine callK_q dyad_Norm.call (n1) rfl rfl ?_
       simp -implicitDefEqProofs only [go_sem, Nat.reduceAdd, Nat.reduceEqDiff, Nat.reduceLT, reduceIte, reduceCtorEq, Int.reduceLE, Int.reduceLT, Int.reduceEq, Int.reduceAdd, Int.reduceMul, Int.reduceSub, Nat.reduceMul, Nat.reduceSub, Nat.reducePow, Nat.reduceLeDiff, Int.reduceToNat, DD, c1, c2, c0, cl, wl, w1, w2, w3, w4, w5, w6, w7, w8, w9, cs]
       refine callK_q dyad_Norm.call (n2) rfl rfl ?_
       simp -implicitDefEqProofs only [go_sem, Nat.reduceAdd, Nat.reduceEqDiff, Nat.reduceLT, reduceIte, reduceCtorEq, Int.reduceLE, Int.reduceLT, Int.reduceEq, Int.reduceAdd, Int.reduceMul, Int.reduceSub, Nat.reduceMul, Nat.reduceSub, Nat.reducePow, Nat.reduceLeDiff, Int.reduceToNat, DD, c1, c2, c0, cl, wl, w1, w2, w3, w4, w5, w6, w7, w8, w9, cs]
       refine callK_q dyad_Sign.call (s1) rfl rfl ?_
       simp -implicitDefEqProofs only [go_sem, Nat.reduceAdd, Nat.reduceEqDiff, Nat.reduceLT, reduceIte, reduceCtorEq, Int.reduceLE, Int.reduceLT, Int.reduceEq, Int.reduceAdd, Int.reduceMul, Int.reduceSub, Nat.reduceMul, Nat.reduceSub, Nat.reducePow, Nat.reduceLeDiff, Int.reduceToNat, DD, c1, c2, c0, cl, wl, w1, w2, w3, w4, w5, w6, w7, w8, w9, cs]
       refine callK_q dyad_Sign.call (s2) rfl rfl ?_
       simp -implicitDefEqProofs only [go_sem, Nat.reduceAdd, Nat.reduceEqDiff, Nat.reduceLT, reduceIte, reduceCtorEq, Int.reduceLE, Int.reduceLT, Int.reduceEq, Int.reduceAdd, Int.reduceMul, Int.reduceSub, Nat.reduceMul, Nat.reduceSub, Nat.reducePow, Nat.reduceLeDiff, Int.reduceToNat, DD, c1, c2, c0, cl, wl, w1, w2, w3, w4, w5, w6, w7, w8, w9, cs]
       refine callK_q dyad_Top.call (t1) rfl rfl ?_
       simp -implicitDefEqProofs only [go_sem, Nat.reduceAdd, Nat.reduceEqDiff, Nat.reduceLT, reduceIte, reduceCtorEq, Int.reduceLE, Int.reduceLT, Int.reduceEq, Int.reduceAdd, Int.reduceMul, Int.reduceSub, Nat.reduceMul, Nat.reduceSub, Nat.reducePow, Nat.reduceLeDiff, Int.reduceToNat, DD, c1, c2, c0, cl, wl, w1, w2, w3, w4, w5, w6, w7, w8, w9, cs]
       refine callK_q dyad_Top.call (t2) rfl rfl ?_
       simp -implicitDefEqProofs only [go_sem, Nat.reduceAdd, Nat.reduceEqDiff, Nat.reduceLT, reduceIte, reduceCtorEq, Int.reduceLE, Int.reduceLT, Int.reduceEq, Int.reduceAdd, Int.reduceMul, Int.reduceSub, Nat.reduceMul, Nat.reduceSub, Nat.reducePow, Nat.reduceLeDiff, Int.reduceToNat, DD, c1, c2, c0, cl, wl, w1, w2, w3, w4, w5, w6, w7, w8, w9, cs]
       refine callK_q nat_Bits.call (b1) rfl rfl ?_
       simp -implicitDefEqProofs only [go_sem, Nat.reduceAdd, Nat.reduceEqDiff, Nat.reduceLT, reduceIte, reduceCtorEq, Int.reduceLE, Int.reduceLT, Int.reduceEq, Int.reduceAdd, Int.reduceMul, Int.reduceSub, Nat.reduceMul, Nat.reduceSub, Nat.reducePow, Nat.reduceLeDiff, Int.reduceToNat, DD, c1, c2, c0, cl, wl, w1, w2, w3, w4, w5, w6, w7, w8, w9, cs]
       refine callK_q nat_Bits.call (b2) rfl rfl ?_
       simp -implicitDefEqProofs only [go_sem, Nat.reduceAdd, Nat.reduceEqDiff, Nat.reduceLT, reduceIte, reduceCtorEq, Int.reduceLE, Int.reduceLT, Int.reduceEq, Int.reduceAdd, Int.reduceMul, Int.reduceSub, Nat.reduceMul, Nat.reduceSub, Nat.reducePow, Nat.reduceLeDiff, Int.reduceToNat, DD, c1, c2, c0, cl, wl, w1, w2, w3, w4, w5, w6, w7, w8, w9, cs]
       refine callK_q nat_Up.call (u1) rfl rfl ?_
       simp -implicitDefEqProofs only [go_sem, Nat.reduceAdd, Nat.reduceEqDiff, Nat.reduceLT, reduceIte, reduceCtorEq, Int.reduceLE, Int.reduceLT, Int.reduceEq, Int.reduceAdd, Int.reduceMul, Int.reduceSub, Nat.reduceMul, Nat.reduceSub, Nat.reducePow, Nat.reduceLeDiff, Int.reduceToNat, DD, c1, c2, c0, cl, wl, w1, w2, w3, w4, w5, w6, w7, w8, w9, cs]
       refine callK_q nat_Up.call (u2) rfl rfl ?_
       simp -implicitDefEqProofs only [go_sem, Nat.reduceAdd, Nat.reduceEqDiff, Nat.reduceLT, reduceIte, reduceCtorEq, Int.reduceLE, Int.reduceLT, Int.reduceEq, Int.reduceAdd, Int.reduceMul, Int.reduceSub, Nat.reduceMul, Nat.reduceSub, Nat.reducePow, Nat.reduceLeDiff, Int.reduceToNat, DD, c1, c2, c0, cl, wl, w1, w2, w3, w4, w5, w6, w7, w8, w9, cs]
       refine callK_q nat_Cmp.call (k1) rfl rfl ?_
       simp -implicitDefEqProofs only [go_sem, Nat.reduceAdd, Nat.reduceEqDiff, Nat.reduceLT, reduceIte, reduceCtorEq, Int.reduceLE, Int.reduceLT, Int.reduceEq, Int.reduceAdd, Int.reduceMul, Int.reduceSub, Nat.reduceMul, Nat.reduceSub, Nat.reducePow, Nat.reduceLeDiff, Int.reduceToNat, DD, c1, c2, c0, cl, wl, w1, w2, w3, w4, w5, w6, w7, w8, w9, cs]
       refine callK_q round_Held.call (q1) rfl rfl ?_
       simp -implicitDefEqProofs only [go_sem, Nat.reduceAdd, Nat.reduceEqDiff, Nat.reduceLT, reduceIte, reduceCtorEq, Int.reduceLE, Int.reduceLT, Int.reduceEq, Int.reduceAdd, Int.reduceMul, Int.reduceSub, Nat.reduceMul, Nat.reduceSub, Nat.reducePow, Nat.reduceLeDiff, Int.reduceToNat, DD, c1, c2, c0, cl, wl, w1, w2, w3, w4, w5, w6, w7, w8, w9, cs]
       refine callK_q whole_Up.call (m1) rfl rfl ?_
       simp -implicitDefEqProofs only [go_sem, Nat.reduceAdd, Nat.reduceEqDiff, Nat.reduceLT, reduceIte, reduceCtorEq, Int.reduceLE, Int.reduceLT, Int.reduceEq, Int.reduceAdd, Int.reduceMul, Int.reduceSub, Nat.reduceMul, Nat.reduceSub, Nat.reducePow, Nat.reduceLeDiff, Int.reduceToNat, DD, c1, c2, c0, cl, wl, w1, w2, w3, w4, w5, w6, w7, w8, w9, cs]
       refine callK_q whole_Up.call (m2) rfl rfl ?_
       simp -implicitDefEqProofs only [go_sem, Nat.reduceAdd, Nat.reduceEqDiff, Nat.reduceLT, reduceIte, reduceCtorEq, Int.reduceLE, Int.reduceLT, Int.reduceEq, Int.reduceAdd, Int.reduceMul, Int.reduceSub, Nat.reduceMul, Nat.reduceSub, Nat.reducePow, Nat.reduceLeDiff, Int.reduceToNat, DD, c1, c2, c0, cl, wl, w1, w2, w3, w4, w5, w6, w7, w8, w9, cs]
       refine callK_q whole_Div.call (d1) rfl rfl ?_
       simp -implicitDefEqProofs only [go_sem, Nat.reduceAdd, Nat.reduceEqDiff, Nat.reduceLT, reduceIte, reduceCtorEq, Int.reduceLE, Int.reduceLT, Int.reduceEq, Int.reduceAdd, Int.reduceMul, Int.reduceSub, Nat.reduceMul, Nat.reduceSub, Nat.reducePow, Nat.reduceLeDiff, Int.reduceToNat, DD, c1, c2, c0, cl, wl, w1, w2, w3, w4, w5, w6, w7, w8, w9, cs]
       refine callK_q whole_Sign.call (v1) rfl rfl ?_
       simp -implicitDefEqProofs only [go_sem, Nat.reduceAdd, Nat.reduceEqDiff, Nat.reduceLT, reduceIte, reduceCtorEq, Int.reduceLE, Int.reduceLT, Int.reduceEq, Int.reduceAdd, Int.reduceMul, Int.reduceSub, Nat.reduceMul, Nat.reduceSub, Nat.reducePow, Nat.reduceLeDiff, Int.reduceToNat, DD, c1, c2, c0, cl, wl, w1, w2, w3, w4, w5, w6, w7, w8, w9, cs]
       refine callK_q quot_told.call (td) rfl rfl ?_
       simp -implicitDefEqProofs only [go_sem, Nat.reduceAdd, Nat.reduceEqDiff, Nat.reduceLT, reduceIte, reduceCtorEq, Int.reduceLE, Int.reduceLT, Int.reduceEq, Int.reduceAdd, Int.reduceMul, Int.reduceSub, Nat.reduceMul, Nat.reduceSub, Nat.reducePow, Nat.reduceLeDiff, Int.reduceToNat, DD, c1, c2, c0, cl, wl, w1, w2, w3, w4, w5, w6, w7, w8, w9, cs])
end
end Go.Ab
