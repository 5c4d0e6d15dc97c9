/- Contracts of this seat's functions (of each call: what it answers), walked over the abstract machine, and the laws of numbers that they want. Conditions: those that each theorem states. -/
import Derived.Test.YtikemgpeiecdcaaDoorE4
set_option linter.unusedVariables false
set_option maxRecDepth 20000
set_option linter.unusedSimpArgs false
set_option linter.unusedSectionVars false
namespace Go.Ab
open Go.Proofs
open Cx (zero one)
attribute [-go_sem] appF newsF
variable {a b : AV} {z w : Cx} {B C n m : Nat} {cs ds : List AV} {f g : Po}
theorem ev_dg {N : Nat} {f : Po} (h : Sp N f) (z : Cx) : ev (dg N f) f z = ev N f z := (ev_le (dg_sp h) (dg_le N f) z).symm
theorem der_conv' (f g : Po) : der (conv f g) = padd (conv (der f) g) (conv f (der g)) := funext (der_conv f g)
theorem psub_padd (f g : Po) : psub (padd f g) g = f := by
  funext i
  show f i + g i - g i = f i
  apply Cx.ext' <;> simp only [Cx.add_re, Cx.add_im, Cx.sub_re, Cx.sub_im] <;> grind
theorem ev_sum {n m : Nat} {f g : Po} (hf : Sp n f) (hg : Sp m g) (z : Cx) : ev (max n m) (padd f g) z = ev n f z + ev m g z := by
  rw [ev_add, ev_le hf (Nat.le_max_left n m), ev_le hg (Nat.le_max_right n m)]
set_option maxRecDepth 100000 in
set_option maxHeartbeats 4000000 in
theorem polyLaws_sat (F : Nat → Raw) (hF : ∀ i, (F i).ok) (hn : n ≤ 9223372036854775807) (G : Nat → Raw) (hG : ∀ i, (G i).ok) (hm : m ≤ 9223372036854775807) (r : Raw) (hr : r.ok) (s : Raw) (hsr : s.ok) (v : Int) (hv : -128 ≤ v ∧ v ≤ 127) : Sat CT false 11 [.sl n (qcl n F), .sl m (qcl m G), .agg r.cells, .agg s.cells, .v (.int .i8 v)] (Bo true) := by
  refine sat_of annuluslaw11_PolyLaws.ok (by simp) ?_
  have DD := annuluslaw11_PolyLaws.dr
  simp only [drP, drPx, drR, drS, bodyOf, Tryd.f11, Nat.reduceEqDiff, reduceIte, true_and, and_true] at DD
  have kn := known11_s
  have fw := few11_s F hn
  have fw' := few11_s G hm
  have pt := point11_s r
  have pt' := point11_s s
  by_cases hf : (∀ i, i < n → (F i).sm) ∧ n ≤ 14
  · rw [decide_eq_true hf] at fw
    by_cases hf' : (∀ i, i < m → (G i).sm) ∧ m ≤ 14
    · rw [decide_eq_true hf'] at fw'
      by_cases hz : r.sm
      · rw [decide_eq_true hz] at pt
        by_cases hz' : s.sm
        · rw [decide_eq_true hz'] at pt'
          have h := RP_q (fun i _ => hF i) hf.1 (by omega)
          have h' := RP_q (fun i _ => hG i) hf'.1 (by omega)
          have hn14 := hf.2
          have hm14 := hf'.2
          have hcs := isD_qcl n F
          have hds := isD_qcl m G
          have hrc := r.rc hr hz
          have hsc := s.rc hsr hz'
          generalize qpo n F = f at h
          generalize qcl n F = cs at *
          generalize qpo m G = g at h'
          generalize qcl m G = ds at *
          generalize r.z = y at hrc
          generalize s.z = z at hsc
          have hyb := hrc.cb
          have hzb := hsc.cb
          have m1 := Nat.mul_le_mul_right (296 + 2) hn14
          have m2 := Nat.mul_le_mul_right (296 + 2) hm14
          have a1 := pat11_s h hsc (by omega)
          have a2 := pat11_s h' hsc (by omega)
          have b1 := (CB.ev h.pb hzb n).mono (C := 4468) (by omega)
          have b2 := (CB.ev h'.pb hzb m).mono (C := 4468) (by omega)
          have c1 := rcplx_r hsc (by omega)
          have c2 := rscale4_s hzb.1 v (by omega) (by omega)
          have c3 := rscale4_s hzb.2 v (by omega) (by omega)
          have hvE : v.natAbs ≤ 128 := by omega
          have bzs : CB (z * two v) 425 := by
            rw [mul_two]; exact ⟨(hzb.1.mul (db_two hvE)), (hzb.2.mul (db_two hvE))⟩
          -- products and sums
          have q3 := pmul_s h h' (by omega) hcs hds (by omega)
          have bM := PB.conv h.pb h'.pb h.sp
          have sM := Sp.conv1 h.sp h'.sp
          have lM := dg_le (n + m) (conv f g)
          have rM := RP_P bM (dg_sp sM) (by omega)
          have q4 := pderiv_s rM (by omega)
          have q5 := pderiv_s h (by omega)
          have bD := h.pb.der h.sp (by omega)
          have sD := dg_sp h.sp.der'
          have lD := dg_le (n - 1) (der f)
          have rD := RP_P bD sD (by omega)
          have q6 := pmul_s rD h' (by omega) (isD_pcl _ _) hds (by omega)
          have q7 := pderiv_s h' (by omega)
          have bE := h'.pb.der h'.sp (by omega)
          have sE := dg_sp h'.sp.der'
          have lE := dg_le (m - 1) (der g)
          have rE := RP_P bE sE (by omega)
          have q8 := pmul_s h rE (by omega) hcs (isD_pcl _ _) (by omega)
          have b6 := PB.conv bD h'.pb sD
          have s6 := Sp.conv1 sD h'.sp
          have l6 := dg_le (dg (n - 1) (der f) + m) (conv (der f) g)
          have b8 := PB.conv h.pb bE h.sp
          have s8 := Sp.conv1 h.sp sE
          have l8 := dg_le (n + dg (m - 1) (der g)) (conv f (der g))
          have r6 := RP_P b6 (dg_sp s6) (by omega)
          have r8 := RP_P b8 (dg_sp s8) (by omega)
          have q9 := padd_s r6 r8 (by omega) (by omega) (isD_pcl _ _) (isD_pcl _ _)
          have b9 := (b6.mono (C := 700) (by omega)).add (b8.mono (C := 700) (by omega))
          have s9 := Sp.padd (dg_sp s6) (dg_sp s8)
          rw [← der_conv'] at q9 b9 s9
          have l9 := dg_le (max (dg (dg (n - 1) (der f) + m) (conv (der f) g)) (dg (n + dg (m - 1) (der g)) (conv f (der g)))) (der (conv f g))
          
          have rA0 : PB (padd f g) 297 := h.pb.add h'.pb
          have q10 := padd_s h h' (by omega) (by omega) hcs hds
          have sA := Sp.padd h.sp h'.sp
          have lA := dg_le (max n m) (padd f g)
          have rA := RP_P rA0 (dg_sp sA) (by omega)
          have m3 := Nat.mul_le_mul_right (296 + 2) (show dg (max n m) (padd f g) ≤ 14 by omega)
          have a3 := pat11_s rA hsc (by omega)
          have evA : ev (dg (max n m) (padd f g)) (padd f g) z = ev n f z + ev m g z := by rw [ev_dg sA, ev_sum h.sp h'.sp]
          rw [evA] at a3
          have k1 := radd8 b1 b2 (by omega) (by omega)
          have k2 := requal8 (b1.add b2) (by omega)
          have m4 := Nat.mul_le_mul_right (296 + 2) (show dg (n + m) (conv f g) ≤ 28 by omega)
          have a4 := pat11_s rM hsc (by omega)
          have evM : ev (dg (n + m) (conv f g)) (conv f g) z = ev n f z * ev m g z := by rw [ev_dg sM, ev_conv h.sp h'.sp]
          rw [evM] at a4
          have k3 := rmul8 b1 b2 (by omega)
          have k4 := requal8 (b1.mul b2) (by omega)
          have mm : 2 * n * n ≤ 2 * 14 * 14 := Nat.mul_le_mul (Nat.mul_le_mul_left 2 hn14) hn14
          have q11 := pshift_s h hrc (by omega) hcs (by omega)
          have hwb := (h.pb.wb (C := 296) h.sp).shf n hyb
          have bS := hwb.mono (C := 4832) (by omega)
          have sS := Sp.shf n f y
          have lf := dg_le n f
          have esh : shf n f y = shf (dg n f) f y := ev_uniq sS ((Sp.shf (dg n f) f y).mono lf) (fun w => by
            rw [ev_shf, ev_le (Sp.shf (dg n f) f y) lf, ev_shf, ev_le (dg_sp h.sp) lf])
          have sS2 : Sp (dg n f) (shf n f y) := by rw [esh]; exact Sp.shf (dg n f) f y
          have m5 := Nat.mul_le_mul_right (296 + 2) (show dg n f ≤ 14 by omega)
          have a5 := pat11_s (RP_P bS sS2 (by omega)) hsc (by omega)
          have evS2 : ev (dg n f) (shf n f y) z = ev n f (y + z) := by rw [← ev_le sS2 lf, ev_shf]
          rw [evS2] at a5
          have k5 := rcplx_r hrc (by omega)
          have k6 := radd8 hyb hzb (by omega) (by omega)
          have byz := hyb.add hzb
          have m6 := Nat.mul_le_mul_right (297 + 2) hn14
          have a6 := pat11_s h (RC_C byz) (by omega)
          have b6' := (CB.ev h.pb byz n).mono (C := 5000) (by omega)
          have k7 := requal8 b6' (by omega)
          have q12 := pscale_s h v (by omega) (by omega) (by omega)
          have bC := (h.pb.scl h.sp hvE).mono (C := 2089) (by omega)
          have sC0 : Sp n (scl (two v) f) := fun i hi => by show f i * pw (two v) i = zero; rw [h.sp i hi, Cx.zero_mul]
          have sC : Sp (dg n f) (scl (two v) f) := fun i hi => by show f i * pw (two v) i = zero; rw [dg_sp h.sp i hi, Cx.zero_mul]
          have a7 := pat11_s (RP_P bC sC (by omega)) hsc (by omega)
          have evC : ev (dg n f) (scl (two v) f) z = ev n f (z * two v) := by rw [← ev_le sC lf, ev_scl, Cx.mulc]
          rw [evC] at a7
          have m7 := Nat.mul_le_mul_right (425 + 2) hn14
          have a8 := pat11_s h (RC_C bzs) (by omega)
          have b8' := (CB.ev h.pb bzs n).mono (C := 7000) (by omega)
          have k8 := requal8 b8' (by omega)
          have a8 : Sat CT false 39 [.sl n cs, CI ⟨z.re * dv 1 v, z.im * dv 1 v⟩] (CI (ev n f (z * two v))) := by rw [← mul_two z v]; exact a8
          have sd1 := Sp.der' sM
          have lDM := dg_le (n + m - 1) (der (conv f g))
          have bDM := bM.der sM (by omega)
          have sDM := (dg_sp sM).der'
          have lDM := dg_le (dg (n + m) (conv f g) - 1) (der (conv f g))
          have rDM := RP_P bDM (dg_sp sDM) (by omega)
          have r9 := RP_P b9 (dg_sp s9) (by omega)
          have k9 := psame_y rDM r9 (by omega) (by omega) (isD_pcl _ _) (isD_pcl _ _) rfl
          have q13 := psub_s rA h' (by omega) (by omega) (isD_pcl _ _) hds
          rw [psub_padd] at q13
          have sU0 := Sp.psub (dg_sp sA) h'.sp
          rw [psub_padd] at sU0
          have lU := dg_le (max (dg (max n m) (padd f g)) m) f
          have rU := RP_P h.pb (dg_sp sU0) (by omega)
          have k10 := psame_y rU h (by omega) (by omega) (isD_pcl _ _) hcs rfl
          simp -implicitDefEqProofs only [go_sem, Nat.reduceAdd, Nat.reduceEqDiff, Nat.reduceLT, reduceIte, reduceCtorEq, Int.reduceLE, Int.reduceLT, Int.reduceEq, Int.reduceAdd, Int.reduceMul, Int.reduceSub, Nat.reduceMul, Nat.reduceSub, Nat.reducePow, Nat.reduceLeDiff, Int.reduceToNat, Tryd.f11, DD, x_app, x_ga0, x_gas, x_gan, Int.cast_ofNat_Int, eq_self, Int.zero_lt_one, Bool.not_false, Bool.not_true, beq_self_eq_true]
          refine callK_pl annuluslaw11_known.call (kn) (pl0) ?_
          simp -implicitDefEqProofs only [go_sem, Nat.reduceAdd, Nat.reduceEqDiff, Nat.reduceLT, reduceIte, reduceCtorEq, Int.reduceLE, Int.reduceLT, Int.reduceEq, Int.reduceAdd, Int.reduceMul, Int.reduceSub, Nat.reduceMul, Nat.reduceSub, Nat.reducePow, Nat.reduceLeDiff, Int.reduceToNat, DD, x_app, x_ga0, x_gas, x_gan, Int.cast_ofNat_Int, eq_self, Int.zero_lt_one, Bool.not_false, Bool.not_true, beq_self_eq_true]
          refine callK_pl annuluslaw11_few.call (fw) (pl1 (pld_sl hcs)) ?_
          simp -implicitDefEqProofs only [go_sem, Nat.reduceAdd, Nat.reduceEqDiff, Nat.reduceLT, reduceIte, reduceCtorEq, Int.reduceLE, Int.reduceLT, Int.reduceEq, Int.reduceAdd, Int.reduceMul, Int.reduceSub, Nat.reduceMul, Nat.reduceSub, Nat.reducePow, Nat.reduceLeDiff, Int.reduceToNat, DD, x_app, x_ga0, x_gas, x_gan, Int.cast_ofNat_Int, eq_self, Int.zero_lt_one, Bool.not_false, Bool.not_true, beq_self_eq_true]
          refine callK_pl annuluslaw11_few.call (fw') (pl1 (pld_sl hds)) ?_
          simp -implicitDefEqProofs only [go_sem, Nat.reduceAdd, Nat.reduceEqDiff, Nat.reduceLT, reduceIte, reduceCtorEq, Int.reduceLE, Int.reduceLT, Int.reduceEq, Int.reduceAdd, Int.reduceMul, Int.reduceSub, Nat.reduceMul, Nat.reduceSub, Nat.reducePow, Nat.reduceLeDiff, Int.reduceToNat, DD, x_app, x_ga0, x_gas, x_gan, Int.cast_ofNat_Int, eq_self, Int.zero_lt_one, Bool.not_false, Bool.not_true, beq_self_eq_true]
          refine callK_pl annuluslaw11_point.call (pt) (pl1 (pld_raw _)) ?_
          simp -implicitDefEqProofs only [go_sem, Nat.reduceAdd, Nat.reduceEqDiff, Nat.reduceLT, reduceIte, reduceCtorEq, Int.reduceLE, Int.reduceLT, Int.reduceEq, Int.reduceAdd, Int.reduceMul, Int.reduceSub, Nat.reduceMul, Nat.reduceSub, Nat.reducePow, Nat.reduceLeDiff, Int.reduceToNat, DD, x_app, x_ga0, x_gas, x_gan, Int.cast_ofNat_Int, eq_self, Int.zero_lt_one, Bool.not_false, Bool.not_true, beq_self_eq_true]
          refine callK_pl annuluslaw11_point.call (pt') (pl1 (pld_raw _)) ?_
          simp -implicitDefEqProofs only [go_sem, Nat.reduceAdd, Nat.reduceEqDiff, Nat.reduceLT, reduceIte, reduceCtorEq, Int.reduceLE, Int.reduceLT, Int.reduceEq, Int.reduceAdd, Int.reduceMul, Int.reduceSub, Nat.reduceMul, Nat.reduceSub, Nat.reducePow, Nat.reduceLeDiff, Int.reduceToNat, DD, x_app, x_ga0, x_gas, x_gan, Int.cast_ofNat_Int, eq_self, Int.zero_lt_one, Bool.not_false, Bool.not_true, beq_self_eq_true]
          refine callK_pl poly_At.call (a1) (pl2 (pld_sl hcs) (pld_raw _)) ?_
          simp -implicitDefEqProofs only [go_sem, Nat.reduceAdd, Nat.reduceEqDiff, Nat.reduceLT, reduceIte, reduceCtorEq, Int.reduceLE, Int.reduceLT, Int.reduceEq, Int.reduceAdd, Int.reduceMul, Int.reduceSub, Nat.reduceMul, Nat.reduceSub, Nat.reducePow, Nat.reduceLeDiff, Int.reduceToNat, DD, x_app, x_ga0, x_gas, x_gan, Int.cast_ofNat_Int, eq_self, Int.zero_lt_one, Bool.not_false, Bool.not_true, beq_self_eq_true]
          refine callK_pl poly_At.call (a2) (pl2 (pld_sl hds) (pld_raw _)) ?_
          simp -implicitDefEqProofs only [go_sem, Nat.reduceAdd, Nat.reduceEqDiff, Nat.reduceLT, reduceIte, reduceCtorEq, Int.reduceLE, Int.reduceLT, Int.reduceEq, Int.reduceAdd, Int.reduceMul, Int.reduceSub, Nat.reduceMul, Nat.reduceSub, Nat.reducePow, Nat.reduceLeDiff, Int.reduceToNat, DD, x_app, x_ga0, x_gas, x_gan, Int.cast_ofNat_Int, eq_self, Int.zero_lt_one, Bool.not_false, Bool.not_true, beq_self_eq_true]
          have wv : IntKind.i64.wrap v = v := wrap_id (by omega)
          simp -implicitDefEqProofs only [go_sem, Nat.reduceAdd, Nat.reduceEqDiff, Nat.reduceLT, reduceIte, reduceCtorEq, Int.reduceLE, Int.reduceLT, Int.reduceEq, Int.reduceAdd, Int.reduceMul, Int.reduceSub, Nat.reduceMul, Nat.reduceSub, Nat.reducePow, Nat.reduceLeDiff, Int.reduceToNat, DD, x_app, x_ga0, x_gas, x_gan, Int.cast_ofNat_Int, eq_self, Int.zero_lt_one, Bool.not_false, Bool.not_true, beq_self_eq_true, wv]
          refine callK_pl annulusref8_Cplx.call (c1) (pl1 (pld_raw _)) ?_
          simp -implicitDefEqProofs only [go_sem, Nat.reduceAdd, Nat.reduceEqDiff, Nat.reduceLT, reduceIte, reduceCtorEq, Int.reduceLE, Int.reduceLT, Int.reduceEq, Int.reduceAdd, Int.reduceMul, Int.reduceSub, Nat.reduceMul, Nat.reduceSub, Nat.reducePow, Nat.reduceLeDiff, Int.reduceToNat, DD, x_app, x_ga0, x_gas, x_gan, Int.cast_ofNat_Int, eq_self, Int.zero_lt_one, Bool.not_false, Bool.not_true, beq_self_eq_true, wv, CIc, DI, DA]
          refine callK_pl annulusref4_Scale.call (c2) (pl2 (pld_DI _) pld_int) ?_
          simp -implicitDefEqProofs only [go_sem, Nat.reduceAdd, Nat.reduceEqDiff, Nat.reduceLT, reduceIte, reduceCtorEq, Int.reduceLE, Int.reduceLT, Int.reduceEq, Int.reduceAdd, Int.reduceMul, Int.reduceSub, Nat.reduceMul, Nat.reduceSub, Nat.reducePow, Nat.reduceLeDiff, Int.reduceToNat, DD, x_app, x_ga0, x_gas, x_gan, Int.cast_ofNat_Int, eq_self, Int.zero_lt_one, Bool.not_false, Bool.not_true, beq_self_eq_true, wv, CIc, DI, DA]
          refine callK_pl annulusref8_Cplx.call (c1) (pl1 (pld_raw _)) ?_
          simp -implicitDefEqProofs only [go_sem, Nat.reduceAdd, Nat.reduceEqDiff, Nat.reduceLT, reduceIte, reduceCtorEq, Int.reduceLE, Int.reduceLT, Int.reduceEq, Int.reduceAdd, Int.reduceMul, Int.reduceSub, Nat.reduceMul, Nat.reduceSub, Nat.reducePow, Nat.reduceLeDiff, Int.reduceToNat, DD, x_app, x_ga0, x_gas, x_gan, Int.cast_ofNat_Int, eq_self, Int.zero_lt_one, Bool.not_false, Bool.not_true, beq_self_eq_true, wv, CIc, DI, DA]
          refine callK_pl annulusref4_Scale.call (c3) (pl2 (pld_DI _) pld_int) ?_
          simp -implicitDefEqProofs only [go_sem, Nat.reduceAdd, Nat.reduceEqDiff, Nat.reduceLT, reduceIte, reduceCtorEq, Int.reduceLE, Int.reduceLT, Int.reduceEq, Int.reduceAdd, Int.reduceMul, Int.reduceSub, Nat.reduceMul, Nat.reduceSub, Nat.reducePow, Nat.reduceLeDiff, Int.reduceToNat, DD, x_app, x_ga0, x_gas, x_gan, Int.cast_ofNat_Int, eq_self, Int.zero_lt_one, Bool.not_false, Bool.not_true, beq_self_eq_true, wv, CIc, DI, DA]
          refine callK_pl poly_Mul.call (q3) (pl2 (pld_sl hcs) (pld_sl hds)) ?_
          simp -implicitDefEqProofs only [go_sem, Nat.reduceAdd, Nat.reduceEqDiff, Nat.reduceLT, reduceIte, reduceCtorEq, Int.reduceLE, Int.reduceLT, Int.reduceEq, Int.reduceAdd, Int.reduceMul, Int.reduceSub, Nat.reduceMul, Nat.reduceSub, Nat.reducePow, Nat.reduceLeDiff, Int.reduceToNat, DD, x_app, x_ga0, x_gas, x_gan, Int.cast_ofNat_Int, eq_self, Int.zero_lt_one, Bool.not_false, Bool.not_true, beq_self_eq_true, wv]
          refine callK_pl poly_Deriv.call (q4) (pl1 (pld_PA _ _)) ?_
          simp -implicitDefEqProofs only [go_sem, Nat.reduceAdd, Nat.reduceEqDiff, Nat.reduceLT, reduceIte, reduceCtorEq, Int.reduceLE, Int.reduceLT, Int.reduceEq, Int.reduceAdd, Int.reduceMul, Int.reduceSub, Nat.reduceMul, Nat.reduceSub, Nat.reducePow, Nat.reduceLeDiff, Int.reduceToNat, DD, x_app, x_ga0, x_gas, x_gan, Int.cast_ofNat_Int, eq_self, Int.zero_lt_one, Bool.not_false, Bool.not_true, beq_self_eq_true, wv]
          refine callK_pl poly_Deriv.call (q5) (pl1 (pld_sl hcs)) ?_
          simp -implicitDefEqProofs only [go_sem, Nat.reduceAdd, Nat.reduceEqDiff, Nat.reduceLT, reduceIte, reduceCtorEq, Int.reduceLE, Int.reduceLT, Int.reduceEq, Int.reduceAdd, Int.reduceMul, Int.reduceSub, Nat.reduceMul, Nat.reduceSub, Nat.reducePow, Nat.reduceLeDiff, Int.reduceToNat, DD, x_app, x_ga0, x_gas, x_gan, Int.cast_ofNat_Int, eq_self, Int.zero_lt_one, Bool.not_false, Bool.not_true, beq_self_eq_true, wv]
          refine callK_pl poly_Mul.call (q6) (pl2 (pld_PA _ _) (pld_sl hds)) ?_
          simp -implicitDefEqProofs only [go_sem, Nat.reduceAdd, Nat.reduceEqDiff, Nat.reduceLT, reduceIte, reduceCtorEq, Int.reduceLE, Int.reduceLT, Int.reduceEq, Int.reduceAdd, Int.reduceMul, Int.reduceSub, Nat.reduceMul, Nat.reduceSub, Nat.reducePow, Nat.reduceLeDiff, Int.reduceToNat, DD, x_app, x_ga0, x_gas, x_gan, Int.cast_ofNat_Int, eq_self, Int.zero_lt_one, Bool.not_false, Bool.not_true, beq_self_eq_true, wv]
          refine callK_pl poly_Deriv.call (q7) (pl1 (pld_sl hds)) ?_
          simp -implicitDefEqProofs only [go_sem, Nat.reduceAdd, Nat.reduceEqDiff, Nat.reduceLT, reduceIte, reduceCtorEq, Int.reduceLE, Int.reduceLT, Int.reduceEq, Int.reduceAdd, Int.reduceMul, Int.reduceSub, Nat.reduceMul, Nat.reduceSub, Nat.reducePow, Nat.reduceLeDiff, Int.reduceToNat, DD, x_app, x_ga0, x_gas, x_gan, Int.cast_ofNat_Int, eq_self, Int.zero_lt_one, Bool.not_false, Bool.not_true, beq_self_eq_true, wv]
          refine callK_pl poly_Mul.call (q8) (pl2 (pld_sl hcs) (pld_PA _ _)) ?_
          simp -implicitDefEqProofs only [go_sem, Nat.reduceAdd, Nat.reduceEqDiff, Nat.reduceLT, reduceIte, reduceCtorEq, Int.reduceLE, Int.reduceLT, Int.reduceEq, Int.reduceAdd, Int.reduceMul, Int.reduceSub, Nat.reduceMul, Nat.reduceSub, Nat.reducePow, Nat.reduceLeDiff, Int.reduceToNat, DD, x_app, x_ga0, x_gas, x_gan, Int.cast_ofNat_Int, eq_self, Int.zero_lt_one, Bool.not_false, Bool.not_true, beq_self_eq_true, wv]
          refine callK_pl poly_Add.call (q9) (pl2 (pld_PA _ _) (pld_PA _ _)) ?_
          simp -implicitDefEqProofs only [go_sem, Nat.reduceAdd, Nat.reduceEqDiff, Nat.reduceLT, reduceIte, reduceCtorEq, Int.reduceLE, Int.reduceLT, Int.reduceEq, Int.reduceAdd, Int.reduceMul, Int.reduceSub, Nat.reduceMul, Nat.reduceSub, Nat.reducePow, Nat.reduceLeDiff, Int.reduceToNat, DD, x_app, x_ga0, x_gas, x_gan, Int.cast_ofNat_Int, eq_self, Int.zero_lt_one, Bool.not_false, Bool.not_true, beq_self_eq_true, wv]
          refine callK_pl poly_Add.call (q10) (pl2 (pld_sl hcs) (pld_sl hds)) ?_
          simp -implicitDefEqProofs only [go_sem, Nat.reduceAdd, Nat.reduceEqDiff, Nat.reduceLT, reduceIte, reduceCtorEq, Int.reduceLE, Int.reduceLT, Int.reduceEq, Int.reduceAdd, Int.reduceMul, Int.reduceSub, Nat.reduceMul, Nat.reduceSub, Nat.reducePow, Nat.reduceLeDiff, Int.reduceToNat, DD, x_app, x_ga0, x_gas, x_gan, Int.cast_ofNat_Int, eq_self, Int.zero_lt_one, Bool.not_false, Bool.not_true, beq_self_eq_true, wv]
          refine callK_pl poly_At.call (a3) (pl2 (pld_PA _ _) (pld_raw _)) ?_
          simp -implicitDefEqProofs only [go_sem, Nat.reduceAdd, Nat.reduceEqDiff, Nat.reduceLT, reduceIte, reduceCtorEq, Int.reduceLE, Int.reduceLT, Int.reduceEq, Int.reduceAdd, Int.reduceMul, Int.reduceSub, Nat.reduceMul, Nat.reduceSub, Nat.reducePow, Nat.reduceLeDiff, Int.reduceToNat, DD, x_app, x_ga0, x_gas, x_gan, Int.cast_ofNat_Int, eq_self, Int.zero_lt_one, Bool.not_false, Bool.not_true, beq_self_eq_true, wv]
          refine callK_pl annulusref8_Add.call (k1) (pl2 (pld_CI _) (pld_CI _)) ?_
          simp -implicitDefEqProofs only [go_sem, Nat.reduceAdd, Nat.reduceEqDiff, Nat.reduceLT, reduceIte, reduceCtorEq, Int.reduceLE, Int.reduceLT, Int.reduceEq, Int.reduceAdd, Int.reduceMul, Int.reduceSub, Nat.reduceMul, Nat.reduceSub, Nat.reducePow, Nat.reduceLeDiff, Int.reduceToNat, DD, x_app, x_ga0, x_gas, x_gan, Int.cast_ofNat_Int, eq_self, Int.zero_lt_one, Bool.not_false, Bool.not_true, beq_self_eq_true, wv]
          refine callK_pl annulusref8_Equal.call (k2) (pl2 (pld_CI _) (pld_CI _)) ?_
          simp -implicitDefEqProofs only [go_sem, Nat.reduceAdd, Nat.reduceEqDiff, Nat.reduceLT, reduceIte, reduceCtorEq, Int.reduceLE, Int.reduceLT, Int.reduceEq, Int.reduceAdd, Int.reduceMul, Int.reduceSub, Nat.reduceMul, Nat.reduceSub, Nat.reducePow, Nat.reduceLeDiff, Int.reduceToNat, DD, x_app, x_ga0, x_gas, x_gan, Int.cast_ofNat_Int, eq_self, Int.zero_lt_one, Bool.not_false, Bool.not_true, beq_self_eq_true, wv]
          refine callK_pl poly_Mul.call (q3) (pl2 (pld_sl hcs) (pld_sl hds)) ?_
          simp -implicitDefEqProofs only [go_sem, Nat.reduceAdd, Nat.reduceEqDiff, Nat.reduceLT, reduceIte, reduceCtorEq, Int.reduceLE, Int.reduceLT, Int.reduceEq, Int.reduceAdd, Int.reduceMul, Int.reduceSub, Nat.reduceMul, Nat.reduceSub, Nat.reducePow, Nat.reduceLeDiff, Int.reduceToNat, DD, x_app, x_ga0, x_gas, x_gan, Int.cast_ofNat_Int, eq_self, Int.zero_lt_one, Bool.not_false, Bool.not_true, beq_self_eq_true, wv]
          refine callK_pl poly_At.call (a4) (pl2 (pld_PA _ _) (pld_raw _)) ?_
          simp -implicitDefEqProofs only [go_sem, Nat.reduceAdd, Nat.reduceEqDiff, Nat.reduceLT, reduceIte, reduceCtorEq, Int.reduceLE, Int.reduceLT, Int.reduceEq, Int.reduceAdd, Int.reduceMul, Int.reduceSub, Nat.reduceMul, Nat.reduceSub, Nat.reducePow, Nat.reduceLeDiff, Int.reduceToNat, DD, x_app, x_ga0, x_gas, x_gan, Int.cast_ofNat_Int, eq_self, Int.zero_lt_one, Bool.not_false, Bool.not_true, beq_self_eq_true, wv]
          refine callK_pl annulusref8_Mul.call (k3) (pl2 (pld_CI _) (pld_CI _)) ?_
          simp -implicitDefEqProofs only [go_sem, Nat.reduceAdd, Nat.reduceEqDiff, Nat.reduceLT, reduceIte, reduceCtorEq, Int.reduceLE, Int.reduceLT, Int.reduceEq, Int.reduceAdd, Int.reduceMul, Int.reduceSub, Nat.reduceMul, Nat.reduceSub, Nat.reducePow, Nat.reduceLeDiff, Int.reduceToNat, DD, x_app, x_ga0, x_gas, x_gan, Int.cast_ofNat_Int, eq_self, Int.zero_lt_one, Bool.not_false, Bool.not_true, beq_self_eq_true, wv]
          refine callK_pl annulusref8_Equal.call (k4) (pl2 (pld_CI _) (pld_CI _)) ?_
          simp -implicitDefEqProofs only [go_sem, Nat.reduceAdd, Nat.reduceEqDiff, Nat.reduceLT, reduceIte, reduceCtorEq, Int.reduceLE, Int.reduceLT, Int.reduceEq, Int.reduceAdd, Int.reduceMul, Int.reduceSub, Nat.reduceMul, Nat.reduceSub, Nat.reducePow, Nat.reduceLeDiff, Int.reduceToNat, DD, x_app, x_ga0, x_gas, x_gan, Int.cast_ofNat_Int, eq_self, Int.zero_lt_one, Bool.not_false, Bool.not_true, beq_self_eq_true, wv]
          refine callK_pl poly_Shift.call (q11) (pl2 (pld_sl hcs) (pld_raw _)) ?_
          simp -implicitDefEqProofs only [go_sem, Nat.reduceAdd, Nat.reduceEqDiff, Nat.reduceLT, reduceIte, reduceCtorEq, Int.reduceLE, Int.reduceLT, Int.reduceEq, Int.reduceAdd, Int.reduceMul, Int.reduceSub, Nat.reduceMul, Nat.reduceSub, Nat.reducePow, Nat.reduceLeDiff, Int.reduceToNat, DD, x_app, x_ga0, x_gas, x_gan, Int.cast_ofNat_Int, eq_self, Int.zero_lt_one, Bool.not_false, Bool.not_true, beq_self_eq_true, wv]
          refine callK_pl poly_At.call (a5) (pl2 (pld_PA _ _) (pld_raw _)) ?_
          simp -implicitDefEqProofs only [go_sem, Nat.reduceAdd, Nat.reduceEqDiff, Nat.reduceLT, reduceIte, reduceCtorEq, Int.reduceLE, Int.reduceLT, Int.reduceEq, Int.reduceAdd, Int.reduceMul, Int.reduceSub, Nat.reduceMul, Nat.reduceSub, Nat.reducePow, Nat.reduceLeDiff, Int.reduceToNat, DD, x_app, x_ga0, x_gas, x_gan, Int.cast_ofNat_Int, eq_self, Int.zero_lt_one, Bool.not_false, Bool.not_true, beq_self_eq_true, wv]
          refine callK_pl annulusref8_Cplx.call (k5) (pl1 (pld_raw _)) ?_
          simp -implicitDefEqProofs only [go_sem, Nat.reduceAdd, Nat.reduceEqDiff, Nat.reduceLT, reduceIte, reduceCtorEq, Int.reduceLE, Int.reduceLT, Int.reduceEq, Int.reduceAdd, Int.reduceMul, Int.reduceSub, Nat.reduceMul, Nat.reduceSub, Nat.reducePow, Nat.reduceLeDiff, Int.reduceToNat, DD, x_app, x_ga0, x_gas, x_gan, Int.cast_ofNat_Int, eq_self, Int.zero_lt_one, Bool.not_false, Bool.not_true, beq_self_eq_true, wv]
          refine callK_pl annulusref8_Cplx.call (c1) (pl1 (pld_raw _)) ?_
          simp -implicitDefEqProofs only [go_sem, Nat.reduceAdd, Nat.reduceEqDiff, Nat.reduceLT, reduceIte, reduceCtorEq, Int.reduceLE, Int.reduceLT, Int.reduceEq, Int.reduceAdd, Int.reduceMul, Int.reduceSub, Nat.reduceMul, Nat.reduceSub, Nat.reducePow, Nat.reduceLeDiff, Int.reduceToNat, DD, x_app, x_ga0, x_gas, x_gan, Int.cast_ofNat_Int, eq_self, Int.zero_lt_one, Bool.not_false, Bool.not_true, beq_self_eq_true, wv]
          refine callK_pl annulusref8_Add.call (k6) (pl2 (pld_CI _) (pld_CI _)) ?_
          simp -implicitDefEqProofs only [go_sem, Nat.reduceAdd, Nat.reduceEqDiff, Nat.reduceLT, reduceIte, reduceCtorEq, Int.reduceLE, Int.reduceLT, Int.reduceEq, Int.reduceAdd, Int.reduceMul, Int.reduceSub, Nat.reduceMul, Nat.reduceSub, Nat.reducePow, Nat.reduceLeDiff, Int.reduceToNat, DD, x_app, x_ga0, x_gas, x_gan, Int.cast_ofNat_Int, eq_self, Int.zero_lt_one, Bool.not_false, Bool.not_true, beq_self_eq_true, wv]
          refine callK_pl poly_At.call (a6) (pl2 (pld_sl hcs) (pld_CI _)) ?_
          simp -implicitDefEqProofs only [go_sem, Nat.reduceAdd, Nat.reduceEqDiff, Nat.reduceLT, reduceIte, reduceCtorEq, Int.reduceLE, Int.reduceLT, Int.reduceEq, Int.reduceAdd, Int.reduceMul, Int.reduceSub, Nat.reduceMul, Nat.reduceSub, Nat.reducePow, Nat.reduceLeDiff, Int.reduceToNat, DD, x_app, x_ga0, x_gas, x_gan, Int.cast_ofNat_Int, eq_self, Int.zero_lt_one, Bool.not_false, Bool.not_true, beq_self_eq_true, wv]
          refine callK_pl annulusref8_Equal.call (k7) (pl2 (pld_CI _) (pld_CI _)) ?_
          simp -implicitDefEqProofs only [go_sem, Nat.reduceAdd, Nat.reduceEqDiff, Nat.reduceLT, reduceIte, reduceCtorEq, Int.reduceLE, Int.reduceLT, Int.reduceEq, Int.reduceAdd, Int.reduceMul, Int.reduceSub, Nat.reduceMul, Nat.reduceSub, Nat.reducePow, Nat.reduceLeDiff, Int.reduceToNat, DD, x_app, x_ga0, x_gas, x_gan, Int.cast_ofNat_Int, eq_self, Int.zero_lt_one, Bool.not_false, Bool.not_true, beq_self_eq_true, wv]
          refine callK_pl poly_Scale.call (q12) (pl2 (pld_sl hcs) pld_int) ?_
          simp -implicitDefEqProofs only [go_sem, Nat.reduceAdd, Nat.reduceEqDiff, Nat.reduceLT, reduceIte, reduceCtorEq, Int.reduceLE, Int.reduceLT, Int.reduceEq, Int.reduceAdd, Int.reduceMul, Int.reduceSub, Nat.reduceMul, Nat.reduceSub, Nat.reducePow, Nat.reduceLeDiff, Int.reduceToNat, DD, x_app, x_ga0, x_gas, x_gan, Int.cast_ofNat_Int, eq_self, Int.zero_lt_one, Bool.not_false, Bool.not_true, beq_self_eq_true, wv]
          refine callK_pl poly_At.call (a7) (pl2 (pld_PA _ _) (pld_raw _)) ?_
          simp -implicitDefEqProofs only [go_sem, Nat.reduceAdd, Nat.reduceEqDiff, Nat.reduceLT, reduceIte, reduceCtorEq, Int.reduceLE, Int.reduceLT, Int.reduceEq, Int.reduceAdd, Int.reduceMul, Int.reduceSub, Nat.reduceMul, Nat.reduceSub, Nat.reducePow, Nat.reduceLeDiff, Int.reduceToNat, DD, x_app, x_ga0, x_gas, x_gan, Int.cast_ofNat_Int, eq_self, Int.zero_lt_one, Bool.not_false, Bool.not_true, beq_self_eq_true, wv]
          refine callK_pl poly_At.call (a8) (pl2 (pld_sl hcs) (pld_CI ⟨z.re * dv 1 v, z.im * dv 1 v⟩)) ?_
          simp -implicitDefEqProofs only [go_sem, Nat.reduceAdd, Nat.reduceEqDiff, Nat.reduceLT, reduceIte, reduceCtorEq, Int.reduceLE, Int.reduceLT, Int.reduceEq, Int.reduceAdd, Int.reduceMul, Int.reduceSub, Nat.reduceMul, Nat.reduceSub, Nat.reducePow, Nat.reduceLeDiff, Int.reduceToNat, DD, x_app, x_ga0, x_gas, x_gan, Int.cast_ofNat_Int, eq_self, Int.zero_lt_one, Bool.not_false, Bool.not_true, beq_self_eq_true, wv]
          refine callK_pl annulusref8_Equal.call (k8) (pl2 (pld_CI _) (pld_CI _)) ?_
          simp -implicitDefEqProofs only [go_sem, Nat.reduceAdd, Nat.reduceEqDiff, Nat.reduceLT, reduceIte, reduceCtorEq, Int.reduceLE, Int.reduceLT, Int.reduceEq, Int.reduceAdd, Int.reduceMul, Int.reduceSub, Nat.reduceMul, Nat.reduceSub, Nat.reducePow, Nat.reduceLeDiff, Int.reduceToNat, DD, x_app, x_ga0, x_gas, x_gan, Int.cast_ofNat_Int, eq_self, Int.zero_lt_one, Bool.not_false, Bool.not_true, beq_self_eq_true, wv]
          refine callK_pl poly_Same.call (k9) (pl2 (pld_PA _ _) (pld_PA _ _)) ?_
          simp -implicitDefEqProofs only [go_sem, Nat.reduceAdd, Nat.reduceEqDiff, Nat.reduceLT, reduceIte, reduceCtorEq, Int.reduceLE, Int.reduceLT, Int.reduceEq, Int.reduceAdd, Int.reduceMul, Int.reduceSub, Nat.reduceMul, Nat.reduceSub, Nat.reducePow, Nat.reduceLeDiff, Int.reduceToNat, DD, x_app, x_ga0, x_gas, x_gan, Int.cast_ofNat_Int, eq_self, Int.zero_lt_one, Bool.not_false, Bool.not_true, beq_self_eq_true, wv]
          refine callK_pl poly_Add.call (q10) (pl2 (pld_sl hcs) (pld_sl hds)) ?_
          simp -implicitDefEqProofs only [go_sem, Nat.reduceAdd, Nat.reduceEqDiff, Nat.reduceLT, reduceIte, reduceCtorEq, Int.reduceLE, Int.reduceLT, Int.reduceEq, Int.reduceAdd, Int.reduceMul, Int.reduceSub, Nat.reduceMul, Nat.reduceSub, Nat.reducePow, Nat.reduceLeDiff, Int.reduceToNat, DD, x_app, x_ga0, x_gas, x_gan, Int.cast_ofNat_Int, eq_self, Int.zero_lt_one, Bool.not_false, Bool.not_true, beq_self_eq_true, wv]
          refine callK_pl poly_Sub.call (q13) (pl2 (pld_PA _ _) (pld_sl hds)) ?_
          simp -implicitDefEqProofs only [go_sem, Nat.reduceAdd, Nat.reduceEqDiff, Nat.reduceLT, reduceIte, reduceCtorEq, Int.reduceLE, Int.reduceLT, Int.reduceEq, Int.reduceAdd, Int.reduceMul, Int.reduceSub, Nat.reduceMul, Nat.reduceSub, Nat.reducePow, Nat.reduceLeDiff, Int.reduceToNat, DD, x_app, x_ga0, x_gas, x_gan, Int.cast_ofNat_Int, eq_self, Int.zero_lt_one, Bool.not_false, Bool.not_true, beq_self_eq_true, wv]
          refine callK_pl poly_Same.call (k10) (pl2 (pld_PA _ _) (pld_sl hcs)) ?_
          simp -implicitDefEqProofs only [go_sem, Nat.reduceAdd, Nat.reduceEqDiff, Nat.reduceLT, reduceIte, reduceCtorEq, Int.reduceLE, Int.reduceLT, Int.reduceEq, Int.reduceAdd, Int.reduceMul, Int.reduceSub, Nat.reduceMul, Nat.reduceSub, Nat.reducePow, Nat.reduceLeDiff, Int.reduceToNat, DD, x_app, x_ga0, x_gas, x_gan, Int.cast_ofNat_Int, eq_self, Int.zero_lt_one, Bool.not_false, Bool.not_true, beq_self_eq_true, wv]
        · rw [decide_eq_false hz'] at pt'
          simp -implicitDefEqProofs only [go_sem, Nat.reduceAdd, Nat.reduceEqDiff, Nat.reduceLT, reduceIte, reduceCtorEq, Int.reduceLE, Int.reduceLT, Int.reduceEq, Int.reduceAdd, Int.reduceMul, Int.reduceSub, Nat.reduceMul, Nat.reduceSub, Nat.reducePow, Nat.reduceLeDiff, Int.reduceToNat, Tryd.f11, DD, x_app, x_ga0, x_gas, x_gan, Int.cast_ofNat_Int, eq_self, Int.zero_lt_one, Bool.not_false, Bool.not_true, beq_self_eq_true]
          refine callK_pl annuluslaw11_known.call (kn) (pl0) ?_
          simp -implicitDefEqProofs only [go_sem, Nat.reduceAdd, Nat.reduceEqDiff, Nat.reduceLT, reduceIte, reduceCtorEq, Int.reduceLE, Int.reduceLT, Int.reduceEq, Int.reduceAdd, Int.reduceMul, Int.reduceSub, Nat.reduceMul, Nat.reduceSub, Nat.reducePow, Nat.reduceLeDiff, Int.reduceToNat, DD, x_app, x_ga0, x_gas, x_gan, Int.cast_ofNat_Int, eq_self, Int.zero_lt_one, Bool.not_false, Bool.not_true, beq_self_eq_true]
          refine callK_pl annuluslaw11_few.call (fw) (pl1 (pld_q n F)) ?_
          simp -implicitDefEqProofs only [go_sem, Nat.reduceAdd, Nat.reduceEqDiff, Nat.reduceLT, reduceIte, reduceCtorEq, Int.reduceLE, Int.reduceLT, Int.reduceEq, Int.reduceAdd, Int.reduceMul, Int.reduceSub, Nat.reduceMul, Nat.reduceSub, Nat.reducePow, Nat.reduceLeDiff, Int.reduceToNat, DD, x_app, x_ga0, x_gas, x_gan, Int.cast_ofNat_Int, eq_self, Int.zero_lt_one, Bool.not_false, Bool.not_true, beq_self_eq_true]
          refine callK_pl annuluslaw11_few.call (fw') (pl1 (pld_q m G)) ?_
          simp -implicitDefEqProofs only [go_sem, Nat.reduceAdd, Nat.reduceEqDiff, Nat.reduceLT, reduceIte, reduceCtorEq, Int.reduceLE, Int.reduceLT, Int.reduceEq, Int.reduceAdd, Int.reduceMul, Int.reduceSub, Nat.reduceMul, Nat.reduceSub, Nat.reducePow, Nat.reduceLeDiff, Int.reduceToNat, DD, x_app, x_ga0, x_gas, x_gan, Int.cast_ofNat_Int, eq_self, Int.zero_lt_one, Bool.not_false, Bool.not_true, beq_self_eq_true]
          refine callK_pl annuluslaw11_point.call (pt) (pl1 (pld_raw _)) ?_
          simp -implicitDefEqProofs only [go_sem, Nat.reduceAdd, Nat.reduceEqDiff, Nat.reduceLT, reduceIte, reduceCtorEq, Int.reduceLE, Int.reduceLT, Int.reduceEq, Int.reduceAdd, Int.reduceMul, Int.reduceSub, Nat.reduceMul, Nat.reduceSub, Nat.reducePow, Nat.reduceLeDiff, Int.reduceToNat, DD, x_app, x_ga0, x_gas, x_gan, Int.cast_ofNat_Int, eq_self, Int.zero_lt_one, Bool.not_false, Bool.not_true, beq_self_eq_true]
          refine callK_pl annuluslaw11_point.call (pt') (pl1 (pld_raw _)) ?_
          simp -implicitDefEqProofs only [go_sem, Nat.reduceAdd, Nat.reduceEqDiff, Nat.reduceLT, reduceIte, reduceCtorEq, Int.reduceLE, Int.reduceLT, Int.reduceEq, Int.reduceAdd, Int.reduceMul, Int.reduceSub, Nat.reduceMul, Nat.reduceSub, Nat.reducePow, Nat.reduceLeDiff, Int.reduceToNat, DD, x_app, x_ga0, x_gas, x_gan, Int.cast_ofNat_Int, eq_self, Int.zero_lt_one, Bool.not_false, Bool.not_true, beq_self_eq_true]
      · rw [decide_eq_false hz] at pt
        simp -implicitDefEqProofs only [go_sem, Nat.reduceAdd, Nat.reduceEqDiff, Nat.reduceLT, reduceIte, reduceCtorEq, Int.reduceLE, Int.reduceLT, Int.reduceEq, Int.reduceAdd, Int.reduceMul, Int.reduceSub, Nat.reduceMul, Nat.reduceSub, Nat.reducePow, Nat.reduceLeDiff, Int.reduceToNat, Tryd.f11, DD, x_app, x_ga0, x_gas, x_gan, Int.cast_ofNat_Int, eq_self, Int.zero_lt_one, Bool.not_false, Bool.not_true, beq_self_eq_true]
        refine callK_pl annuluslaw11_known.call (kn) (pl0) ?_
        simp -implicitDefEqProofs only [go_sem, Nat.reduceAdd, Nat.reduceEqDiff, Nat.reduceLT, reduceIte, reduceCtorEq, Int.reduceLE, Int.reduceLT, Int.reduceEq, Int.reduceAdd, Int.reduceMul, Int.reduceSub, Nat.reduceMul, Nat.reduceSub, Nat.reducePow, Nat.reduceLeDiff, Int.reduceToNat, DD, x_app, x_ga0, x_gas, x_gan, Int.cast_ofNat_Int, eq_self, Int.zero_lt_one, Bool.not_false, Bool.not_true, beq_self_eq_true]
        refine callK_pl annuluslaw11_few.call (fw) (pl1 (pld_q n F)) ?_
        simp -implicitDefEqProofs only [go_sem, Nat.reduceAdd, Nat.reduceEqDiff, Nat.reduceLT, reduceIte, reduceCtorEq, Int.reduceLE, Int.reduceLT, Int.reduceEq, Int.reduceAdd, Int.reduceMul, Int.reduceSub, Nat.reduceMul, Nat.reduceSub, Nat.reducePow, Nat.reduceLeDiff, Int.reduceToNat, DD, x_app, x_ga0, x_gas, x_gan, Int.cast_ofNat_Int, eq_self, Int.zero_lt_one, Bool.not_false, Bool.not_true, beq_self_eq_true]
        refine callK_pl annuluslaw11_few.call (fw') (pl1 (pld_q m G)) ?_
        simp -implicitDefEqProofs only [go_sem, Nat.reduceAdd, Nat.reduceEqDiff, Nat.reduceLT, reduceIte, reduceCtorEq, Int.reduceLE, Int.reduceLT, Int.reduceEq, Int.reduceAdd, Int.reduceMul, Int.reduceSub, Nat.reduceMul, Nat.reduceSub, Nat.reducePow, Nat.reduceLeDiff, Int.reduceToNat, DD, x_app, x_ga0, x_gas, x_gan, Int.cast_ofNat_Int, eq_self, Int.zero_lt_one, Bool.not_false, Bool.not_true, beq_self_eq_true]
        refine callK_pl annuluslaw11_point.call (pt) (pl1 (pld_raw _)) ?_
        simp -implicitDefEqProofs only [go_sem, Nat.reduceAdd, Nat.reduceEqDiff, Nat.reduceLT, reduceIte, reduceCtorEq, Int.reduceLE, Int.reduceLT, Int.reduceEq, Int.reduceAdd, Int.reduceMul, Int.reduceSub, Nat.reduceMul, Nat.reduceSub, Nat.reducePow, Nat.reduceLeDiff, Int.reduceToNat, DD, x_app, x_ga0, x_gas, x_gan, Int.cast_ofNat_Int, eq_self, Int.zero_lt_one, Bool.not_false, Bool.not_true, beq_self_eq_true]
    · rw [decide_eq_false hf'] at fw'
      simp -implicitDefEqProofs only [go_sem, Nat.reduceAdd, Nat.reduceEqDiff, Nat.reduceLT, reduceIte, reduceCtorEq, Int.reduceLE, Int.reduceLT, Int.reduceEq, Int.reduceAdd, Int.reduceMul, Int.reduceSub, Nat.reduceMul, Nat.reduceSub, Nat.reducePow, Nat.reduceLeDiff, Int.reduceToNat, Tryd.f11, DD, x_app, x_ga0, x_gas, x_gan, Int.cast_ofNat_Int, eq_self, Int.zero_lt_one, Bool.not_false, Bool.not_true, beq_self_eq_true]
      refine callK_pl annuluslaw11_known.call (kn) (pl0) ?_
      simp -implicitDefEqProofs only [go_sem, Nat.reduceAdd, Nat.reduceEqDiff, Nat.reduceLT, reduceIte, reduceCtorEq, Int.reduceLE, Int.reduceLT, Int.reduceEq, Int.reduceAdd, Int.reduceMul, Int.reduceSub, Nat.reduceMul, Nat.reduceSub, Nat.reducePow, Nat.reduceLeDiff, Int.reduceToNat, DD, x_app, x_ga0, x_gas, x_gan, Int.cast_ofNat_Int, eq_self, Int.zero_lt_one, Bool.not_false, Bool.not_true, beq_self_eq_true]
      refine callK_pl annuluslaw11_few.call (fw) (pl1 (pld_q n F)) ?_
      simp -implicitDefEqProofs only [go_sem, Nat.reduceAdd, Nat.reduceEqDiff, Nat.reduceLT, reduceIte, reduceCtorEq, Int.reduceLE, Int.reduceLT, Int.reduceEq, Int.reduceAdd, Int.reduceMul, Int.reduceSub, Nat.reduceMul, Nat.reduceSub, Nat.reducePow, Nat.reduceLeDiff, Int.reduceToNat, DD, x_app, x_ga0, x_gas, x_gan, Int.cast_ofNat_Int, eq_self, Int.zero_lt_one, Bool.not_false, Bool.not_true, beq_self_eq_true]
      refine callK_pl annuluslaw11_few.call (fw') (pl1 (pld_q m G)) ?_
      simp -implicitDefEqProofs only [go_sem, Nat.reduceAdd, Nat.reduceEqDiff, Nat.reduceLT, reduceIte, reduceCtorEq, Int.reduceLE, Int.reduceLT, Int.reduceEq, Int.reduceAdd, Int.reduceMul, Int.reduceSub, Nat.reduceMul, Nat.reduceSub, Nat.reducePow, Nat.reduceLeDiff, Int.reduceToNat, DD, x_app, x_ga0, x_gas, x_gan, Int.cast_ofNat_Int, eq_self, Int.zero_lt_one, Bool.not_false, Bool.not_true, beq_self_eq_true]
  · rw [decide_eq_false hf] at fw
    simp -implicitDefEqProofs only [go_sem, Nat.reduceAdd, Nat.reduceEqDiff, Nat.reduceLT, reduceIte, reduceCtorEq, Int.reduceLE, Int.reduceLT, Int.reduceEq, Int.reduceAdd, Int.reduceMul, Int.reduceSub, Nat.reduceMul, Nat.reduceSub, Nat.reducePow, Nat.reduceLeDiff, Int.reduceToNat, Tryd.f11, DD, x_app, x_ga0, x_gas, x_gan, Int.cast_ofNat_Int, eq_self, Int.zero_lt_one, Bool.not_false, Bool.not_true, beq_self_eq_true]
    refine callK_pl annuluslaw11_known.call (kn) (pl0) ?_
    simp -implicitDefEqProofs only [go_sem, Nat.reduceAdd, Nat.reduceEqDiff, Nat.reduceLT, reduceIte, reduceCtorEq, Int.reduceLE, Int.reduceLT, Int.reduceEq, Int.reduceAdd, Int.reduceMul, Int.reduceSub, Nat.reduceMul, Nat.reduceSub, Nat.reducePow, Nat.reduceLeDiff, Int.reduceToNat, DD, x_app, x_ga0, x_gas, x_gan, Int.cast_ofNat_Int, eq_self, Int.zero_lt_one, Bool.not_false, Bool.not_true, beq_self_eq_true]
    refine callK_pl annuluslaw11_few.call (fw) (pl1 (pld_q n F)) ?_
    simp -implicitDefEqProofs only [go_sem, Nat.reduceAdd, Nat.reduceEqDiff, Nat.reduceLT, reduceIte, reduceCtorEq, Int.reduceLE, Int.reduceLT, Int.reduceEq, Int.reduceAdd, Int.reduceMul, Int.reduceSub, Nat.reduceMul, Nat.reduceSub, Nat.reducePow, Nat.reduceLeDiff, Int.reduceToNat, DD, x_app, x_ga0, x_gas, x_gan, Int.cast_ofNat_Int, eq_self, Int.zero_lt_one, Bool.not_false, Bool.not_true, beq_self_eq_true]
end Go.Ab
