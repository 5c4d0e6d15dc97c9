/- Contracts of this seat's functions (of each call: what it answers), walked over the abstract machine, and the laws of numbers that they want. Conditions: those that each theorem states. -/
import Derived.Test.YtikemgpeiecdcaaGreatDoorE8
set_option linter.unusedVariables false
set_option maxRecDepth 20000
set_option linter.unusedSimpArgs false
set_option linter.unusedSectionVars false
namespace Go.Ab
open Go.Proofs
open Cx (zero one)
attribute [-go_sem] appF newsF
variable {a b : AV} {z w : Cx} {B C n m : Nat} {cs ds : List AV} {f g : Po}
theorem Blk.leaf {l : List AV} {z : Cx} (h : Blk l z) : l.all leafA = true := by rcases h with rfl | ⟨_, rfl⟩ <;> rfl
theorem ev_dg' {N : Nat} {f : Po} (h : Sp N f) (z : Cx) : ev (dg N f) f z = ev N f z := (ev_le (dg_sp h) (dg_le N f) z).symm
theorem req11 (h : PB f B) (hB : B ≤ 20000) (hn : n ≤ 1000000) : Sat CT false 11 [PA n f, PA n f] (Bo true) := by
  have := requal11 (m := n) h h hB hB hn
  rwa [decide_eq_true ⟨rfl, fun _ _ => rfl⟩] at this
theorem psub_add (f g : Po) : padd f (pneg g) = psub f g := funext (fun k => by show f k + - g k = f k - g k; rw [Cx.sub_eq])
set_option maxRecDepth 100000 in
set_option maxHeartbeats 4000000 in
theorem polyTells_sat (F : Nat → Raw) (hF : ∀ i, (F i).ok) (hn : n ≤ 9223372036854775807) (G : Nat → Raw) (hG : ∀ i, (G i).ok) (hm : m ≤ 9223372036854775807) (r : Raw) (hr : r.ok) (c : Int) : Sat CT false 3 [.sl n (qcl n F), .sl m (qcl m G), .agg r.cells, I64 c] (Bo true) := by
  refine sat_of annuluslaw11_PolyTells.ok (by simp) ?_
  have DD := annuluslaw11_PolyTells.dr
  simp only [drP, drPx, drR, drS, bodyOf, Tryz.f3, Nat.reduceEqDiff, reduceIte, true_and, and_true] at DD
  have kn := known11_s
  have fw := few11_s F hn
  have fw' := few11_s G hm
  have pt := point11_s r
  by_cases hf : (∀ i, i < n → (F i).sm) ∧ n ≤ 14
  · rw [decide_eq_true hf] at fw
    by_cases hf' : (∀ i, i < m → (G i).sm) ∧ m ≤ 14
    · rw [decide_eq_true hf'] at fw'
      by_cases hz : r.sm
      · rw [decide_eq_true hz] at pt
        have h := RP_q (fun i _ => hF i) hf.1 (by omega)
        have h' := RP_q (fun i _ => hG i) hf'.1 (by omega)
        have hn14 := hf.2
        have hm14 := hf'.2
        have hcs := isD_qcl n F
        have hds := isD_qcl m G
        have hsc := r.rc hr hz
        generalize qpo n F = f at h
        generalize qcl n F = cs at *
        generalize qpo m G = g at h'
        generalize qcl m G = ds at *
        generalize r.z = z at hsc
        have hzb := hsc.cb
        have m1 := Nat.mul_le_mul_right (296 + 2) hn14
        have mm : 2 * n * n ≤ 2 * 14 * 14 := Nat.mul_le_mul (Nat.mul_le_mul_left 2 hn14) hn14
        have ld := dg_le n f
        have le := dg_le m g
        have sd := dg_sp h.sp
        have se := dg_sp h'.sp
        have m2 := Nat.mul_le_mul_right (296 + 2) (show dg n f ≤ 14 by omega)
        have mm2 : 2 * dg n f * dg n f ≤ 2 * 14 * 14 := Nat.mul_le_mul (Nat.mul_le_mul_left 2 (by omega)) (by omega)
        have self := dg_self h.sp
        -- what is told
        have qa := rtrim_s h (by omega)
        have qb := rtrim_s h' (by omega)
        have qc := rcplx_r hsc (by omega)
        obtain ⟨l1, hl1, p1⟩ := ppart_any h hsc (by omega)
        obtain ⟨l2, hl2, p2⟩ := rpart_any h.pb sd hzb (by omega) (by omega)
        have ePQ := pq_le sd ld z
        have s1 : Sp (dg n f) (pq (dg n f) f z) := (Sp.pq' f z).mono (by omega)
        rw [ev_dg' h.sp] at hl2
        rw [ePQ, dg_ind (s1.mono ld) s1] at p1
        have bQ : PB (pq (dg n f) f z) 4468 := fun i => ((CB.ev (h.pb.dp (i + 1)) hzb (dg n f - 1 - i)).mono (by have := Nat.mul_le_mul_right (296 + 2) (show dg n f - 1 - i ≤ 14 by omega); omega))
        have lQ := dg_le (dg n f) (pq (dg n f) f z)
        have eQ := req11 (n := dg (dg n f) (pq (dg n f) f z)) bQ (by omega) (by omega)
        have t1 := ptrim_s h (by omega)
        have t2 := req11 (n := dg n f) h.pb (by omega) (by omega)
        have t3 := pdeg_s h (by omega) hcs
        have t4 := requal11 (n := dg n f) (m := dg m g) h.pb h'.pb (by omega) (by omega) (by omega)
        have t5 := psame_b h h' (by omega) (by omega) hcs hds (decide (dg n f = dg m g ∧ ∀ i, i < dg n f → f i = g i)) (by
          rw [decide_eq_true_eq]
          refine ⟨fun q => po_ext sd (q.1 ▸ se) q.2, fun q => ?_⟩
          subst q
          exact ⟨dg_ind h.sp h'.sp, fun _ _ => rfl⟩)
        generalize decide (dg n f = dg m g ∧ ∀ i, i < dg n f → f i = g i) = bb at *
        have sA := Sp.padd h.sp h'.sp
        have sA' := Sp.padd sd se
        have u1 := padd_s h h' (by omega) (by omega) hcs hds
        have u2 := radd_s h.pb h'.pb sd se (by omega) (by omega) (by omega)
        rw [dg_ind sA' sA] at u2
        have lA := dg_le (max n m) (padd f g)
        have u3 := req11 (n := dg (max n m) (padd f g)) (h.pb.add h'.pb) (by omega) (by omega)
        have sU := Sp.psub h.sp h'.sp
        have v1 := psub_s h h' (by omega) (by omega) hcs hds
        have v2 := rneg_s (n := dg m g) h'.pb (by omega) (by omega)
        have seN : Sp (dg m g) (pneg g) := fun k hk => by show - g k = zero; rw [se k hk]; rfl
        have v3 := radd_s h.pb h'.pb.neg sd seN (by omega) (by omega) (by omega)
        have sU' := Sp.padd sd seN
        rw [psub_add] at v3 sU'
        rw [dg_ind sU' sU] at v3
        have lU := dg_le (max n m) (psub f g)
        have v4 := req11 (n := dg (max n m) (psub f g)) (h.pb.sub h'.pb) (by omega) (by omega)
        have sM := Sp.conv1 h.sp h'.sp
        have sM' := Sp.conv1 sd se
        have w1 := pmul_s h h' (by omega) hcs hds (by omega)
        have w2 := rmul_s h.pb h'.pb sd se (by omega) (by omega)
        rw [dg_ind sM' sM] at w2
        have lM := dg_le (n + m) (conv f g)
        have w3 := req11 (n := dg (n + m) (conv f g)) (PB.conv h.pb h'.pb h.sp) (by omega) (by omega)
        have x1 := pderiv_s h (by omega)
        have x2 := rderiv_s h.pb sd (by omega) (by omega)
        rw [dg_ind sd.der' h.sp.der'] at x2
        have lD := dg_le (n - 1) (der f)
        have x3 := req11 (n := dg (n - 1) (der f)) (h.pb.der h.sp (by omega)) (by omega) (by omega)
        have y1 := pat11_s h hsc (by omega)
        have y2 := rat11_s h.pb hzb (n := dg n f) (by omega) (by omega)
        rw [ev_dg' h.sp] at y2
        have bV := CB.ev h.pb hzb n
        have y3 := requal8 bV (by omega)
        have hshf : shf n f z = shf (dg n f) f z := ev_uniq (Sp.shf n f z) ((Sp.shf (dg n f) f z).mono ld) (fun w => by
          rw [ev_shf, ev_le (Sp.shf (dg n f) f z) ld, ev_shf, ev_le sd ld])
        have z1 := pshift_s h hsc (by omega) hcs (by omega)
        have z2 := rshift_s h.pb sd self hzb (by omega) (by omega)
        rw [hshf] at z1
        have bS := ((h.pb.wb (C := 296) sd).shf (dg n f) hzb).mono (C := 6000) (by omega)
        have z3 := req11 (n := dg n f) bS (by omega) (by omega)
        obtain ⟨K, hK, hK5⟩ : ∃ K : Int, max (-500) (min c 500) = K ∧ K.natAbs ≤ 500 := ⟨_, rfl, by omega⟩
        have a1 := pscale_s h K (by omega) (by omega) (by omega)
        have a2 := rscale_s (n := dg n f) h.pb K (by omega) (by omega) (by omega)
        have bC := (h.pb.scl h.sp hK5).mono (C := 7297) (by omega)
        have a3 := req11 (n := dg n f) bC (by omega) (by omega)
        have g1 := hl1.len
        have g2 := hl1.take
        have g3 := hl1.leaf
        have g4 := hl2.len
        have g5 := hl2.take
        have g6 := hl2.leaf
        have hPa : PA (dg n f) f = .sl (dg n f) (pcl (dg n f) f) := rfl
        have cw : IntKind.i64.wrap (((dg n f : Nat) : Int) - 1) = ((dg n f : Nat) : Int) - 1 := wrap_id (by omega)
        simp -implicitDefEqProofs only [go_sem, Nat.reduceAdd, Nat.reduceEqDiff, Nat.reduceLT, reduceIte, reduceCtorEq, Int.reduceLE, Int.reduceLT, Int.reduceEq, Int.reduceAdd, Int.reduceMul, Int.reduceSub, Nat.reduceMul, Nat.reduceSub, Nat.reducePow, Nat.reduceLeDiff, Int.reduceToNat, Tryz.f3, DD, x_app, x_ga0, x_gas, x_gan, Int.cast_ofNat_Int, eq_self, Int.zero_lt_one, Bool.not_false, Bool.not_true, beq_self_eq_true, g1, g2, g3, g4, g5, g6, hPa, cw, hK]
        refine callK_pl annuluslaw11_known.call (kn) (pl0) ?_
        simp -implicitDefEqProofs only [go_sem, Nat.reduceAdd, Nat.reduceEqDiff, Nat.reduceLT, reduceIte, reduceCtorEq, Int.reduceLE, Int.reduceLT, Int.reduceEq, Int.reduceAdd, Int.reduceMul, Int.reduceSub, Nat.reduceMul, Nat.reduceSub, Nat.reducePow, Nat.reduceLeDiff, Int.reduceToNat, DD, x_app, x_ga0, x_gas, x_gan, Int.cast_ofNat_Int, eq_self, Int.zero_lt_one, Bool.not_false, Bool.not_true, beq_self_eq_true, g1, g2, g3, g4, g5, g6, hPa, cw, hK]
        refine callK_pl annuluslaw11_few.call (fw) (pl1 (pld_sl hcs)) ?_
        simp -implicitDefEqProofs only [go_sem, Nat.reduceAdd, Nat.reduceEqDiff, Nat.reduceLT, reduceIte, reduceCtorEq, Int.reduceLE, Int.reduceLT, Int.reduceEq, Int.reduceAdd, Int.reduceMul, Int.reduceSub, Nat.reduceMul, Nat.reduceSub, Nat.reducePow, Nat.reduceLeDiff, Int.reduceToNat, DD, x_app, x_ga0, x_gas, x_gan, Int.cast_ofNat_Int, eq_self, Int.zero_lt_one, Bool.not_false, Bool.not_true, beq_self_eq_true, g1, g2, g3, g4, g5, g6, hPa, cw, hK]
        refine callK_pl annuluslaw11_few.call (fw') (pl1 (pld_sl hds)) ?_
        simp -implicitDefEqProofs only [go_sem, Nat.reduceAdd, Nat.reduceEqDiff, Nat.reduceLT, reduceIte, reduceCtorEq, Int.reduceLE, Int.reduceLT, Int.reduceEq, Int.reduceAdd, Int.reduceMul, Int.reduceSub, Nat.reduceMul, Nat.reduceSub, Nat.reducePow, Nat.reduceLeDiff, Int.reduceToNat, DD, x_app, x_ga0, x_gas, x_gan, Int.cast_ofNat_Int, eq_self, Int.zero_lt_one, Bool.not_false, Bool.not_true, beq_self_eq_true, g1, g2, g3, g4, g5, g6, hPa, cw, hK]
        refine callK_pl annuluslaw11_point.call (pt) (pl1 (pld_raw _)) ?_
        simp -implicitDefEqProofs only [go_sem, Nat.reduceAdd, Nat.reduceEqDiff, Nat.reduceLT, reduceIte, reduceCtorEq, Int.reduceLE, Int.reduceLT, Int.reduceEq, Int.reduceAdd, Int.reduceMul, Int.reduceSub, Nat.reduceMul, Nat.reduceSub, Nat.reducePow, Nat.reduceLeDiff, Int.reduceToNat, DD, x_app, x_ga0, x_gas, x_gan, Int.cast_ofNat_Int, eq_self, Int.zero_lt_one, Bool.not_false, Bool.not_true, beq_self_eq_true, g1, g2, g3, g4, g5, g6, hPa, cw, hK]
        refine callK_pl annulusref11_Trim.call (qa) (pl1 (pld_sl hcs)) ?_
        simp -implicitDefEqProofs only [go_sem, Nat.reduceAdd, Nat.reduceEqDiff, Nat.reduceLT, reduceIte, reduceCtorEq, Int.reduceLE, Int.reduceLT, Int.reduceEq, Int.reduceAdd, Int.reduceMul, Int.reduceSub, Nat.reduceMul, Nat.reduceSub, Nat.reducePow, Nat.reduceLeDiff, Int.reduceToNat, DD, x_app, x_ga0, x_gas, x_gan, Int.cast_ofNat_Int, eq_self, Int.zero_lt_one, Bool.not_false, Bool.not_true, beq_self_eq_true, g1, g2, g3, g4, g5, g6, hPa, cw, hK]
        refine callK_pl annulusref11_Trim.call (qb) (pl1 (pld_sl hds)) ?_
        simp -implicitDefEqProofs only [go_sem, Nat.reduceAdd, Nat.reduceEqDiff, Nat.reduceLT, reduceIte, reduceCtorEq, Int.reduceLE, Int.reduceLT, Int.reduceEq, Int.reduceAdd, Int.reduceMul, Int.reduceSub, Nat.reduceMul, Nat.reduceSub, Nat.reducePow, Nat.reduceLeDiff, Int.reduceToNat, DD, x_app, x_ga0, x_gas, x_gan, Int.cast_ofNat_Int, eq_self, Int.zero_lt_one, Bool.not_false, Bool.not_true, beq_self_eq_true, g1, g2, g3, g4, g5, g6, hPa, cw, hK]
        refine callK_pl annulusref8_Cplx.call (qc) (pl1 (pld_raw _)) ?_
        simp -implicitDefEqProofs only [go_sem, Nat.reduceAdd, Nat.reduceEqDiff, Nat.reduceLT, reduceIte, reduceCtorEq, Int.reduceLE, Int.reduceLT, Int.reduceEq, Int.reduceAdd, Int.reduceMul, Int.reduceSub, Nat.reduceMul, Nat.reduceSub, Nat.reducePow, Nat.reduceLeDiff, Int.reduceToNat, DD, x_app, x_ga0, x_gas, x_gan, Int.cast_ofNat_Int, eq_self, Int.zero_lt_one, Bool.not_false, Bool.not_true, beq_self_eq_true, g1, g2, g3, g4, g5, g6, hPa, cw, hK]
        refine callK_pl poly_Part.call (p1) (pl2 (pld_sl hcs) (pld_raw _)) ?_
        simp -implicitDefEqProofs only [go_sem, Nat.reduceAdd, Nat.reduceEqDiff, Nat.reduceLT, reduceIte, reduceCtorEq, Int.reduceLE, Int.reduceLT, Int.reduceEq, Int.reduceAdd, Int.reduceMul, Int.reduceSub, Nat.reduceMul, Nat.reduceSub, Nat.reducePow, Nat.reduceLeDiff, Int.reduceToNat, DD, x_app, x_ga0, x_gas, x_gan, Int.cast_ofNat_Int, eq_self, Int.zero_lt_one, Bool.not_false, Bool.not_true, beq_self_eq_true, g1, g2, g3, g4, g5, g6, hPa, cw, hK]
        refine callK_pl annulusref11_Part.call (p2) (pl2 (pld_PA _ _) (pld_CI _)) ?_
        simp -implicitDefEqProofs only [go_sem, Nat.reduceAdd, Nat.reduceEqDiff, Nat.reduceLT, reduceIte, reduceCtorEq, Int.reduceLE, Int.reduceLT, Int.reduceEq, Int.reduceAdd, Int.reduceMul, Int.reduceSub, Nat.reduceMul, Nat.reduceSub, Nat.reducePow, Nat.reduceLeDiff, Int.reduceToNat, DD, x_app, x_ga0, x_gas, x_gan, Int.cast_ofNat_Int, eq_self, Int.zero_lt_one, Bool.not_false, Bool.not_true, beq_self_eq_true, g1, g2, g3, g4, g5, g6, hPa, cw, hK]
        refine callK_pl poly_Trim.call (t1) (pl1 (pld_sl hcs)) ?_
        simp -implicitDefEqProofs only [go_sem, Nat.reduceAdd, Nat.reduceEqDiff, Nat.reduceLT, reduceIte, reduceCtorEq, Int.reduceLE, Int.reduceLT, Int.reduceEq, Int.reduceAdd, Int.reduceMul, Int.reduceSub, Nat.reduceMul, Nat.reduceSub, Nat.reducePow, Nat.reduceLeDiff, Int.reduceToNat, DD, x_app, x_ga0, x_gas, x_gan, Int.cast_ofNat_Int, eq_self, Int.zero_lt_one, Bool.not_false, Bool.not_true, beq_self_eq_true, g1, g2, g3, g4, g5, g6, hPa, cw, hK]
        refine callK_pl annulusref11_Equal.call (t2) (pl2 (pld_PA _ _) (pld_PA _ _)) ?_
        simp -implicitDefEqProofs only [go_sem, Nat.reduceAdd, Nat.reduceEqDiff, Nat.reduceLT, reduceIte, reduceCtorEq, Int.reduceLE, Int.reduceLT, Int.reduceEq, Int.reduceAdd, Int.reduceMul, Int.reduceSub, Nat.reduceMul, Nat.reduceSub, Nat.reducePow, Nat.reduceLeDiff, Int.reduceToNat, DD, x_app, x_ga0, x_gas, x_gan, Int.cast_ofNat_Int, eq_self, Int.zero_lt_one, Bool.not_false, Bool.not_true, beq_self_eq_true, g1, g2, g3, g4, g5, g6, hPa, cw, hK]
        refine callK_pl poly_Degree.call (t3) (pl1 (pld_sl hcs)) ?_
        simp -implicitDefEqProofs only [go_sem, Nat.reduceAdd, Nat.reduceEqDiff, Nat.reduceLT, reduceIte, reduceCtorEq, Int.reduceLE, Int.reduceLT, Int.reduceEq, Int.reduceAdd, Int.reduceMul, Int.reduceSub, Nat.reduceMul, Nat.reduceSub, Nat.reducePow, Nat.reduceLeDiff, Int.reduceToNat, DD, x_app, x_ga0, x_gas, x_gan, Int.cast_ofNat_Int, eq_self, Int.zero_lt_one, Bool.not_false, Bool.not_true, beq_self_eq_true, g1, g2, g3, g4, g5, g6, hPa, cw, hK]
        refine callK_pl poly_Same.call (t5) (pl2 (pld_sl hcs) (pld_sl hds)) ?_
        simp -implicitDefEqProofs only [go_sem, Nat.reduceAdd, Nat.reduceEqDiff, Nat.reduceLT, reduceIte, reduceCtorEq, Int.reduceLE, Int.reduceLT, Int.reduceEq, Int.reduceAdd, Int.reduceMul, Int.reduceSub, Nat.reduceMul, Nat.reduceSub, Nat.reducePow, Nat.reduceLeDiff, Int.reduceToNat, DD, x_app, x_ga0, x_gas, x_gan, Int.cast_ofNat_Int, eq_self, Int.zero_lt_one, Bool.not_false, Bool.not_true, beq_self_eq_true, g1, g2, g3, g4, g5, g6, hPa, cw, hK]
        refine callK_pl annulusref11_Equal.call (t4) (pl2 (pld_PA _ _) (pld_PA _ _)) ?_
        simp -implicitDefEqProofs only [go_sem, Nat.reduceAdd, Nat.reduceEqDiff, Nat.reduceLT, reduceIte, reduceCtorEq, Int.reduceLE, Int.reduceLT, Int.reduceEq, Int.reduceAdd, Int.reduceMul, Int.reduceSub, Nat.reduceMul, Nat.reduceSub, Nat.reducePow, Nat.reduceLeDiff, Int.reduceToNat, DD, x_app, x_ga0, x_gas, x_gan, Int.cast_ofNat_Int, eq_self, Int.zero_lt_one, Bool.not_false, Bool.not_true, beq_self_eq_true, g1, g2, g3, g4, g5, g6, hPa, cw, hK]
        refine callK_pl poly_Add.call (u1) (pl2 (pld_sl hcs) (pld_sl hds)) ?_
        simp -implicitDefEqProofs only [go_sem, Nat.reduceAdd, Nat.reduceEqDiff, Nat.reduceLT, reduceIte, reduceCtorEq, Int.reduceLE, Int.reduceLT, Int.reduceEq, Int.reduceAdd, Int.reduceMul, Int.reduceSub, Nat.reduceMul, Nat.reduceSub, Nat.reducePow, Nat.reduceLeDiff, Int.reduceToNat, DD, x_app, x_ga0, x_gas, x_gan, Int.cast_ofNat_Int, eq_self, Int.zero_lt_one, Bool.not_false, Bool.not_true, beq_self_eq_true, g1, g2, g3, g4, g5, g6, hPa, cw, hK]
        refine callK_pl annulusref11_Add.call (u2) (pl2 (pld_PA _ _) (pld_PA _ _)) ?_
        simp -implicitDefEqProofs only [go_sem, Nat.reduceAdd, Nat.reduceEqDiff, Nat.reduceLT, reduceIte, reduceCtorEq, Int.reduceLE, Int.reduceLT, Int.reduceEq, Int.reduceAdd, Int.reduceMul, Int.reduceSub, Nat.reduceMul, Nat.reduceSub, Nat.reducePow, Nat.reduceLeDiff, Int.reduceToNat, DD, x_app, x_ga0, x_gas, x_gan, Int.cast_ofNat_Int, eq_self, Int.zero_lt_one, Bool.not_false, Bool.not_true, beq_self_eq_true, g1, g2, g3, g4, g5, g6, hPa, cw, hK]
        refine callK_pl annulusref11_Equal.call (u3) (pl2 (pld_PA _ _) (pld_PA _ _)) ?_
        simp -implicitDefEqProofs only [go_sem, Nat.reduceAdd, Nat.reduceEqDiff, Nat.reduceLT, reduceIte, reduceCtorEq, Int.reduceLE, Int.reduceLT, Int.reduceEq, Int.reduceAdd, Int.reduceMul, Int.reduceSub, Nat.reduceMul, Nat.reduceSub, Nat.reducePow, Nat.reduceLeDiff, Int.reduceToNat, DD, x_app, x_ga0, x_gas, x_gan, Int.cast_ofNat_Int, eq_self, Int.zero_lt_one, Bool.not_false, Bool.not_true, beq_self_eq_true, g1, g2, g3, g4, g5, g6, hPa, cw, hK]
        refine callK_pl poly_Sub.call (v1) (pl2 (pld_sl hcs) (pld_sl hds)) ?_
        simp -implicitDefEqProofs only [go_sem, Nat.reduceAdd, Nat.reduceEqDiff, Nat.reduceLT, reduceIte, reduceCtorEq, Int.reduceLE, Int.reduceLT, Int.reduceEq, Int.reduceAdd, Int.reduceMul, Int.reduceSub, Nat.reduceMul, Nat.reduceSub, Nat.reducePow, Nat.reduceLeDiff, Int.reduceToNat, DD, x_app, x_ga0, x_gas, x_gan, Int.cast_ofNat_Int, eq_self, Int.zero_lt_one, Bool.not_false, Bool.not_true, beq_self_eq_true, g1, g2, g3, g4, g5, g6, hPa, cw, hK]
        refine callK_pl annulusref11_Neg.call (v2) (pl1 (pld_PA _ _)) ?_
        simp -implicitDefEqProofs only [go_sem, Nat.reduceAdd, Nat.reduceEqDiff, Nat.reduceLT, reduceIte, reduceCtorEq, Int.reduceLE, Int.reduceLT, Int.reduceEq, Int.reduceAdd, Int.reduceMul, Int.reduceSub, Nat.reduceMul, Nat.reduceSub, Nat.reducePow, Nat.reduceLeDiff, Int.reduceToNat, DD, x_app, x_ga0, x_gas, x_gan, Int.cast_ofNat_Int, eq_self, Int.zero_lt_one, Bool.not_false, Bool.not_true, beq_self_eq_true, g1, g2, g3, g4, g5, g6, hPa, cw, hK]
        refine callK_pl annulusref11_Add.call (v3) (pl2 (pld_PA _ _) (pld_PA _ _)) ?_
        simp -implicitDefEqProofs only [go_sem, Nat.reduceAdd, Nat.reduceEqDiff, Nat.reduceLT, reduceIte, reduceCtorEq, Int.reduceLE, Int.reduceLT, Int.reduceEq, Int.reduceAdd, Int.reduceMul, Int.reduceSub, Nat.reduceMul, Nat.reduceSub, Nat.reducePow, Nat.reduceLeDiff, Int.reduceToNat, DD, x_app, x_ga0, x_gas, x_gan, Int.cast_ofNat_Int, eq_self, Int.zero_lt_one, Bool.not_false, Bool.not_true, beq_self_eq_true, g1, g2, g3, g4, g5, g6, hPa, cw, hK]
        refine callK_pl annulusref11_Equal.call (v4) (pl2 (pld_PA _ _) (pld_PA _ _)) ?_
        simp -implicitDefEqProofs only [go_sem, Nat.reduceAdd, Nat.reduceEqDiff, Nat.reduceLT, reduceIte, reduceCtorEq, Int.reduceLE, Int.reduceLT, Int.reduceEq, Int.reduceAdd, Int.reduceMul, Int.reduceSub, Nat.reduceMul, Nat.reduceSub, Nat.reducePow, Nat.reduceLeDiff, Int.reduceToNat, DD, x_app, x_ga0, x_gas, x_gan, Int.cast_ofNat_Int, eq_self, Int.zero_lt_one, Bool.not_false, Bool.not_true, beq_self_eq_true, g1, g2, g3, g4, g5, g6, hPa, cw, hK]
        refine callK_pl poly_Mul.call (w1) (pl2 (pld_sl hcs) (pld_sl hds)) ?_
        simp -implicitDefEqProofs only [go_sem, Nat.reduceAdd, Nat.reduceEqDiff, Nat.reduceLT, reduceIte, reduceCtorEq, Int.reduceLE, Int.reduceLT, Int.reduceEq, Int.reduceAdd, Int.reduceMul, Int.reduceSub, Nat.reduceMul, Nat.reduceSub, Nat.reducePow, Nat.reduceLeDiff, Int.reduceToNat, DD, x_app, x_ga0, x_gas, x_gan, Int.cast_ofNat_Int, eq_self, Int.zero_lt_one, Bool.not_false, Bool.not_true, beq_self_eq_true, g1, g2, g3, g4, g5, g6, hPa, cw, hK]
        refine callK_pl annulusref11_Mul.call (w2) (pl2 (pld_PA _ _) (pld_PA _ _)) ?_
        simp -implicitDefEqProofs only [go_sem, Nat.reduceAdd, Nat.reduceEqDiff, Nat.reduceLT, reduceIte, reduceCtorEq, Int.reduceLE, Int.reduceLT, Int.reduceEq, Int.reduceAdd, Int.reduceMul, Int.reduceSub, Nat.reduceMul, Nat.reduceSub, Nat.reducePow, Nat.reduceLeDiff, Int.reduceToNat, DD, x_app, x_ga0, x_gas, x_gan, Int.cast_ofNat_Int, eq_self, Int.zero_lt_one, Bool.not_false, Bool.not_true, beq_self_eq_true, g1, g2, g3, g4, g5, g6, hPa, cw, hK]
        refine callK_pl annulusref11_Equal.call (w3) (pl2 (pld_PA _ _) (pld_PA _ _)) ?_
        simp -implicitDefEqProofs only [go_sem, Nat.reduceAdd, Nat.reduceEqDiff, Nat.reduceLT, reduceIte, reduceCtorEq, Int.reduceLE, Int.reduceLT, Int.reduceEq, Int.reduceAdd, Int.reduceMul, Int.reduceSub, Nat.reduceMul, Nat.reduceSub, Nat.reducePow, Nat.reduceLeDiff, Int.reduceToNat, DD, x_app, x_ga0, x_gas, x_gan, Int.cast_ofNat_Int, eq_self, Int.zero_lt_one, Bool.not_false, Bool.not_true, beq_self_eq_true, g1, g2, g3, g4, g5, g6, hPa, cw, hK]
        refine callK_pl poly_Deriv.call (x1) (pl1 (pld_sl hcs)) ?_
        simp -implicitDefEqProofs only [go_sem, Nat.reduceAdd, Nat.reduceEqDiff, Nat.reduceLT, reduceIte, reduceCtorEq, Int.reduceLE, Int.reduceLT, Int.reduceEq, Int.reduceAdd, Int.reduceMul, Int.reduceSub, Nat.reduceMul, Nat.reduceSub, Nat.reducePow, Nat.reduceLeDiff, Int.reduceToNat, DD, x_app, x_ga0, x_gas, x_gan, Int.cast_ofNat_Int, eq_self, Int.zero_lt_one, Bool.not_false, Bool.not_true, beq_self_eq_true, g1, g2, g3, g4, g5, g6, hPa, cw, hK]
        refine callK_pl annulusref11_Deriv.call (x2) (pl1 (pld_PA _ _)) ?_
        simp -implicitDefEqProofs only [go_sem, Nat.reduceAdd, Nat.reduceEqDiff, Nat.reduceLT, reduceIte, reduceCtorEq, Int.reduceLE, Int.reduceLT, Int.reduceEq, Int.reduceAdd, Int.reduceMul, Int.reduceSub, Nat.reduceMul, Nat.reduceSub, Nat.reducePow, Nat.reduceLeDiff, Int.reduceToNat, DD, x_app, x_ga0, x_gas, x_gan, Int.cast_ofNat_Int, eq_self, Int.zero_lt_one, Bool.not_false, Bool.not_true, beq_self_eq_true, g1, g2, g3, g4, g5, g6, hPa, cw, hK]
        refine callK_pl annulusref11_Equal.call (x3) (pl2 (pld_PA _ _) (pld_PA _ _)) ?_
        simp -implicitDefEqProofs only [go_sem, Nat.reduceAdd, Nat.reduceEqDiff, Nat.reduceLT, reduceIte, reduceCtorEq, Int.reduceLE, Int.reduceLT, Int.reduceEq, Int.reduceAdd, Int.reduceMul, Int.reduceSub, Nat.reduceMul, Nat.reduceSub, Nat.reducePow, Nat.reduceLeDiff, Int.reduceToNat, DD, x_app, x_ga0, x_gas, x_gan, Int.cast_ofNat_Int, eq_self, Int.zero_lt_one, Bool.not_false, Bool.not_true, beq_self_eq_true, g1, g2, g3, g4, g5, g6, hPa, cw, hK]
        refine callK_pl poly_At.call (y1) (pl2 (pld_sl hcs) (pld_raw _)) ?_
        simp -implicitDefEqProofs only [go_sem, Nat.reduceAdd, Nat.reduceEqDiff, Nat.reduceLT, reduceIte, reduceCtorEq, Int.reduceLE, Int.reduceLT, Int.reduceEq, Int.reduceAdd, Int.reduceMul, Int.reduceSub, Nat.reduceMul, Nat.reduceSub, Nat.reducePow, Nat.reduceLeDiff, Int.reduceToNat, DD, x_app, x_ga0, x_gas, x_gan, Int.cast_ofNat_Int, eq_self, Int.zero_lt_one, Bool.not_false, Bool.not_true, beq_self_eq_true, g1, g2, g3, g4, g5, g6, hPa, cw, hK]
        refine callK_pl annulusref11_At.call (y2) (pl2 (pld_PA _ _) (pld_CI _)) ?_
        simp -implicitDefEqProofs only [go_sem, Nat.reduceAdd, Nat.reduceEqDiff, Nat.reduceLT, reduceIte, reduceCtorEq, Int.reduceLE, Int.reduceLT, Int.reduceEq, Int.reduceAdd, Int.reduceMul, Int.reduceSub, Nat.reduceMul, Nat.reduceSub, Nat.reducePow, Nat.reduceLeDiff, Int.reduceToNat, DD, x_app, x_ga0, x_gas, x_gan, Int.cast_ofNat_Int, eq_self, Int.zero_lt_one, Bool.not_false, Bool.not_true, beq_self_eq_true, g1, g2, g3, g4, g5, g6, hPa, cw, hK]
        refine callK_pl annulusref8_Equal.call (y3) (pl2 (pld_CI _) (pld_CI _)) ?_
        simp -implicitDefEqProofs only [go_sem, Nat.reduceAdd, Nat.reduceEqDiff, Nat.reduceLT, reduceIte, reduceCtorEq, Int.reduceLE, Int.reduceLT, Int.reduceEq, Int.reduceAdd, Int.reduceMul, Int.reduceSub, Nat.reduceMul, Nat.reduceSub, Nat.reducePow, Nat.reduceLeDiff, Int.reduceToNat, DD, x_app, x_ga0, x_gas, x_gan, Int.cast_ofNat_Int, eq_self, Int.zero_lt_one, Bool.not_false, Bool.not_true, beq_self_eq_true, g1, g2, g3, g4, g5, g6, hPa, cw, hK]
        refine callK_pl poly_Shift.call (z1) (pl2 (pld_sl hcs) (pld_raw _)) ?_
        simp -implicitDefEqProofs only [go_sem, Nat.reduceAdd, Nat.reduceEqDiff, Nat.reduceLT, reduceIte, reduceCtorEq, Int.reduceLE, Int.reduceLT, Int.reduceEq, Int.reduceAdd, Int.reduceMul, Int.reduceSub, Nat.reduceMul, Nat.reduceSub, Nat.reducePow, Nat.reduceLeDiff, Int.reduceToNat, DD, x_app, x_ga0, x_gas, x_gan, Int.cast_ofNat_Int, eq_self, Int.zero_lt_one, Bool.not_false, Bool.not_true, beq_self_eq_true, g1, g2, g3, g4, g5, g6, hPa, cw, hK]
        refine callK_pl annulusref11_Shift.call (z2) (pl2 (pld_PA _ _) (pld_CI _)) ?_
        simp -implicitDefEqProofs only [go_sem, Nat.reduceAdd, Nat.reduceEqDiff, Nat.reduceLT, reduceIte, reduceCtorEq, Int.reduceLE, Int.reduceLT, Int.reduceEq, Int.reduceAdd, Int.reduceMul, Int.reduceSub, Nat.reduceMul, Nat.reduceSub, Nat.reducePow, Nat.reduceLeDiff, Int.reduceToNat, DD, x_app, x_ga0, x_gas, x_gan, Int.cast_ofNat_Int, eq_self, Int.zero_lt_one, Bool.not_false, Bool.not_true, beq_self_eq_true, g1, g2, g3, g4, g5, g6, hPa, cw, hK]
        refine callK_pl annulusref11_Equal.call (z3) (pl2 (pld_PA _ _) (pld_PA _ _)) ?_
        simp -implicitDefEqProofs only [go_sem, Nat.reduceAdd, Nat.reduceEqDiff, Nat.reduceLT, reduceIte, reduceCtorEq, Int.reduceLE, Int.reduceLT, Int.reduceEq, Int.reduceAdd, Int.reduceMul, Int.reduceSub, Nat.reduceMul, Nat.reduceSub, Nat.reducePow, Nat.reduceLeDiff, Int.reduceToNat, DD, x_app, x_ga0, x_gas, x_gan, Int.cast_ofNat_Int, eq_self, Int.zero_lt_one, Bool.not_false, Bool.not_true, beq_self_eq_true, g1, g2, g3, g4, g5, g6, hPa, cw, hK]
        refine callK_pl poly_Scale.call (a1) (pl2 (pld_sl hcs) pld_int) ?_
        simp -implicitDefEqProofs only [go_sem, Nat.reduceAdd, Nat.reduceEqDiff, Nat.reduceLT, reduceIte, reduceCtorEq, Int.reduceLE, Int.reduceLT, Int.reduceEq, Int.reduceAdd, Int.reduceMul, Int.reduceSub, Nat.reduceMul, Nat.reduceSub, Nat.reducePow, Nat.reduceLeDiff, Int.reduceToNat, DD, x_app, x_ga0, x_gas, x_gan, Int.cast_ofNat_Int, eq_self, Int.zero_lt_one, Bool.not_false, Bool.not_true, beq_self_eq_true, g1, g2, g3, g4, g5, g6, hPa, cw, hK]
        refine callK_pl annulusref11_Scale.call (a2) (pl2 (pld_PA _ _) pld_int) ?_
        simp -implicitDefEqProofs only [go_sem, Nat.reduceAdd, Nat.reduceEqDiff, Nat.reduceLT, reduceIte, reduceCtorEq, Int.reduceLE, Int.reduceLT, Int.reduceEq, Int.reduceAdd, Int.reduceMul, Int.reduceSub, Nat.reduceMul, Nat.reduceSub, Nat.reducePow, Nat.reduceLeDiff, Int.reduceToNat, DD, x_app, x_ga0, x_gas, x_gan, Int.cast_ofNat_Int, eq_self, Int.zero_lt_one, Bool.not_false, Bool.not_true, beq_self_eq_true, g1, g2, g3, g4, g5, g6, hPa, cw, hK]
        refine callK_pl annulusref11_Equal.call (a3) (pl2 (pld_PA _ _) (pld_PA _ _)) ?_
        simp -implicitDefEqProofs only [go_sem, Nat.reduceAdd, Nat.reduceEqDiff, Nat.reduceLT, reduceIte, reduceCtorEq, Int.reduceLE, Int.reduceLT, Int.reduceEq, Int.reduceAdd, Int.reduceMul, Int.reduceSub, Nat.reduceMul, Nat.reduceSub, Nat.reducePow, Nat.reduceLeDiff, Int.reduceToNat, DD, x_app, x_ga0, x_gas, x_gan, Int.cast_ofNat_Int, eq_self, Int.zero_lt_one, Bool.not_false, Bool.not_true, beq_self_eq_true, g1, g2, g3, g4, g5, g6, hPa, cw, hK]
        refine callK_pl annulusref11_Equal.call (eQ) (pl2 (pld_PA _ _) (pld_PA _ _)) ?_
        simp -implicitDefEqProofs only [go_sem, Nat.reduceAdd, Nat.reduceEqDiff, Nat.reduceLT, reduceIte, reduceCtorEq, Int.reduceLE, Int.reduceLT, Int.reduceEq, Int.reduceAdd, Int.reduceMul, Int.reduceSub, Nat.reduceMul, Nat.reduceSub, Nat.reducePow, Nat.reduceLeDiff, Int.reduceToNat, DD, x_app, x_ga0, x_gas, x_gan, Int.cast_ofNat_Int, eq_self, Int.zero_lt_one, Bool.not_false, Bool.not_true, beq_self_eq_true, g1, g2, g3, g4, g5, g6, hPa, cw, hK]
        refine callK_pr annulusref8_Equal.call y3 (.cons hl1.plr (.cons hl2.plr .nil)) ?_
        simp -implicitDefEqProofs only [go_sem, Nat.reduceAdd, Nat.reduceEqDiff, Nat.reduceLT, reduceIte, reduceCtorEq, Int.reduceLE, Int.reduceLT, Int.reduceEq, Int.reduceAdd, Int.reduceMul, Int.reduceSub, Nat.reduceMul, Nat.reduceSub, Nat.reducePow, Nat.reduceLeDiff, Int.reduceToNat, DD, x_app, x_ga0, x_gas, x_gan, Int.cast_ofNat_Int, eq_self, Int.zero_lt_one, Bool.not_false, Bool.not_true, beq_self_eq_true, g1, g2, g3, g4, g5, g6, hPa, cw, hK]
      · rw [decide_eq_false hz] at pt
        simp -implicitDefEqProofs only [go_sem, Nat.reduceAdd, Nat.reduceEqDiff, Nat.reduceLT, reduceIte, reduceCtorEq, Int.reduceLE, Int.reduceLT, Int.reduceEq, Int.reduceAdd, Int.reduceMul, Int.reduceSub, Nat.reduceMul, Nat.reduceSub, Nat.reducePow, Nat.reduceLeDiff, Int.reduceToNat, Tryz.f3, DD, x_app, x_ga0, x_gas, x_gan, Int.cast_ofNat_Int, eq_self, Int.zero_lt_one, Bool.not_false, Bool.not_true, beq_self_eq_true]
        refine callK_pl annuluslaw11_known.call (kn) (pl0) ?_
        simp -implicitDefEqProofs only [go_sem, Nat.reduceAdd, Nat.reduceEqDiff, Nat.reduceLT, reduceIte, reduceCtorEq, Int.reduceLE, Int.reduceLT, Int.reduceEq, Int.reduceAdd, Int.reduceMul, Int.reduceSub, Nat.reduceMul, Nat.reduceSub, Nat.reducePow, Nat.reduceLeDiff, Int.reduceToNat, DD, x_app, x_ga0, x_gas, x_gan, Int.cast_ofNat_Int, eq_self, Int.zero_lt_one, Bool.not_false, Bool.not_true, beq_self_eq_true]
        refine callK_pl annuluslaw11_few.call (fw) (pl1 (pld_q n F)) ?_
        simp -implicitDefEqProofs only [go_sem, Nat.reduceAdd, Nat.reduceEqDiff, Nat.reduceLT, reduceIte, reduceCtorEq, Int.reduceLE, Int.reduceLT, Int.reduceEq, Int.reduceAdd, Int.reduceMul, Int.reduceSub, Nat.reduceMul, Nat.reduceSub, Nat.reducePow, Nat.reduceLeDiff, Int.reduceToNat, DD, x_app, x_ga0, x_gas, x_gan, Int.cast_ofNat_Int, eq_self, Int.zero_lt_one, Bool.not_false, Bool.not_true, beq_self_eq_true]
        refine callK_pl annuluslaw11_few.call (fw') (pl1 (pld_q m G)) ?_
        simp -implicitDefEqProofs only [go_sem, Nat.reduceAdd, Nat.reduceEqDiff, Nat.reduceLT, reduceIte, reduceCtorEq, Int.reduceLE, Int.reduceLT, Int.reduceEq, Int.reduceAdd, Int.reduceMul, Int.reduceSub, Nat.reduceMul, Nat.reduceSub, Nat.reducePow, Nat.reduceLeDiff, Int.reduceToNat, DD, x_app, x_ga0, x_gas, x_gan, Int.cast_ofNat_Int, eq_self, Int.zero_lt_one, Bool.not_false, Bool.not_true, beq_self_eq_true]
        refine callK_pl annuluslaw11_point.call (pt) (pl1 (pld_raw _)) ?_
        simp -implicitDefEqProofs only [go_sem, Nat.reduceAdd, Nat.reduceEqDiff, Nat.reduceLT, reduceIte, reduceCtorEq, Int.reduceLE, Int.reduceLT, Int.reduceEq, Int.reduceAdd, Int.reduceMul, Int.reduceSub, Nat.reduceMul, Nat.reduceSub, Nat.reducePow, Nat.reduceLeDiff, Int.reduceToNat, DD, x_app, x_ga0, x_gas, x_gan, Int.cast_ofNat_Int, eq_self, Int.zero_lt_one, Bool.not_false, Bool.not_true, beq_self_eq_true]
    · rw [decide_eq_false hf'] at fw'
      simp -implicitDefEqProofs only [go_sem, Nat.reduceAdd, Nat.reduceEqDiff, Nat.reduceLT, reduceIte, reduceCtorEq, Int.reduceLE, Int.reduceLT, Int.reduceEq, Int.reduceAdd, Int.reduceMul, Int.reduceSub, Nat.reduceMul, Nat.reduceSub, Nat.reducePow, Nat.reduceLeDiff, Int.reduceToNat, Tryz.f3, DD, x_app, x_ga0, x_gas, x_gan, Int.cast_ofNat_Int, eq_self, Int.zero_lt_one, Bool.not_false, Bool.not_true, beq_self_eq_true]
      refine callK_pl annuluslaw11_known.call (kn) (pl0) ?_
      simp -implicitDefEqProofs only [go_sem, Nat.reduceAdd, Nat.reduceEqDiff, Nat.reduceLT, reduceIte, reduceCtorEq, Int.reduceLE, Int.reduceLT, Int.reduceEq, Int.reduceAdd, Int.reduceMul, Int.reduceSub, Nat.reduceMul, Nat.reduceSub, Nat.reducePow, Nat.reduceLeDiff, Int.reduceToNat, DD, x_app, x_ga0, x_gas, x_gan, Int.cast_ofNat_Int, eq_self, Int.zero_lt_one, Bool.not_false, Bool.not_true, beq_self_eq_true]
      refine callK_pl annuluslaw11_few.call (fw) (pl1 (pld_q n F)) ?_
      simp -implicitDefEqProofs only [go_sem, Nat.reduceAdd, Nat.reduceEqDiff, Nat.reduceLT, reduceIte, reduceCtorEq, Int.reduceLE, Int.reduceLT, Int.reduceEq, Int.reduceAdd, Int.reduceMul, Int.reduceSub, Nat.reduceMul, Nat.reduceSub, Nat.reducePow, Nat.reduceLeDiff, Int.reduceToNat, DD, x_app, x_ga0, x_gas, x_gan, Int.cast_ofNat_Int, eq_self, Int.zero_lt_one, Bool.not_false, Bool.not_true, beq_self_eq_true]
      refine callK_pl annuluslaw11_few.call (fw') (pl1 (pld_q m G)) ?_
      simp -implicitDefEqProofs only [go_sem, Nat.reduceAdd, Nat.reduceEqDiff, Nat.reduceLT, reduceIte, reduceCtorEq, Int.reduceLE, Int.reduceLT, Int.reduceEq, Int.reduceAdd, Int.reduceMul, Int.reduceSub, Nat.reduceMul, Nat.reduceSub, Nat.reducePow, Nat.reduceLeDiff, Int.reduceToNat, DD, x_app, x_ga0, x_gas, x_gan, Int.cast_ofNat_Int, eq_self, Int.zero_lt_one, Bool.not_false, Bool.not_true, beq_self_eq_true]
  · rw [decide_eq_false hf] at fw
    simp -implicitDefEqProofs only [go_sem, Nat.reduceAdd, Nat.reduceEqDiff, Nat.reduceLT, reduceIte, reduceCtorEq, Int.reduceLE, Int.reduceLT, Int.reduceEq, Int.reduceAdd, Int.reduceMul, Int.reduceSub, Nat.reduceMul, Nat.reduceSub, Nat.reducePow, Nat.reduceLeDiff, Int.reduceToNat, Tryz.f3, DD, x_app, x_ga0, x_gas, x_gan, Int.cast_ofNat_Int, eq_self, Int.zero_lt_one, Bool.not_false, Bool.not_true, beq_self_eq_true]
    refine callK_pl annuluslaw11_known.call (kn) (pl0) ?_
    simp -implicitDefEqProofs only [go_sem, Nat.reduceAdd, Nat.reduceEqDiff, Nat.reduceLT, reduceIte, reduceCtorEq, Int.reduceLE, Int.reduceLT, Int.reduceEq, Int.reduceAdd, Int.reduceMul, Int.reduceSub, Nat.reduceMul, Nat.reduceSub, Nat.reducePow, Nat.reduceLeDiff, Int.reduceToNat, DD, x_app, x_ga0, x_gas, x_gan, Int.cast_ofNat_Int, eq_self, Int.zero_lt_one, Bool.not_false, Bool.not_true, beq_self_eq_true]
    refine callK_pl annuluslaw11_few.call (fw) (pl1 (pld_q n F)) ?_
    simp -implicitDefEqProofs only [go_sem, Nat.reduceAdd, Nat.reduceEqDiff, Nat.reduceLT, reduceIte, reduceCtorEq, Int.reduceLE, Int.reduceLT, Int.reduceEq, Int.reduceAdd, Int.reduceMul, Int.reduceSub, Nat.reduceMul, Nat.reduceSub, Nat.reducePow, Nat.reduceLeDiff, Int.reduceToNat, DD, x_app, x_ga0, x_gas, x_gan, Int.cast_ofNat_Int, eq_self, Int.zero_lt_one, Bool.not_false, Bool.not_true, beq_self_eq_true]
end Go.Ab
