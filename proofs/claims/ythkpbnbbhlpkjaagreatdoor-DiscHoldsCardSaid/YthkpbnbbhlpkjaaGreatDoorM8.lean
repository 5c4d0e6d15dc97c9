/- Contracts of this seat's functions (of each call: what it answers), walked over the abstract machine, and the laws of numbers that they want. Conditions: those that each theorem states. -/
import Derived.Test.YthkpbnbbhlpkjaaGreatDoorM7
set_option linter.unusedVariables false
set_option maxRecDepth 20000
set_option linter.unusedSimpArgs false
set_option linter.unusedSectionVars false
namespace Go.Ab
open Go.Proofs
open Cx (zero one)
attribute [-go_sem] appF newsF
variable {a b : AV} {x y r s t : Dyadic} {z w c d e : Cx} {B C B' C' n m : Nat}
/-! the law of borders -/
theorem CI_i0 (h : Dyadic) : CI ⟨h, 0⟩ = .agg [Bo (decide (dnum h < 0)), U32 (lim (dnum h).natAbs), I64 (dexp h), Bo false, U32 [], I64 0] := by
  show AV.agg [_, _, _, Bo (decide (dnum (0 : Dyadic) < 0)), U32 (lim (dnum (0 : Dyadic)).natAbs), I64 (dexp (0 : Dyadic))] = _
  rw [z0a, z0b, de0]
theorem TI_0 (c : Cx) : TI c 0 = .agg [Bo (decide (dnum c.re < 0)), U32 (lim (dnum c.re).natAbs), I64 (dexp c.re), Bo (decide (dnum c.im < 0)), U32 (lim (dnum c.im).natAbs), I64 (dexp c.im), Bo false, U32 [], I64 0] := by
  unfold TI
  rw [z0a, z0b, de0]
theorem zI_rat (a b : Int) : toRc (zI a b) = ⟨(a : Rat), (b : Rat)⟩ := by
  show Rc.mk (dv a 0).toRat (dv b 0).toRat = _
  rw [dv_rat, dv_rat, Rat.zpow_zero, Rat.mul_one, Rat.mul_one]
theorem far_hair (u v k : Int) (hk : 0 < k) {h : Dyadic} (h0 : 0 < h.toRat) : ((dv (5 * k) 0).toRat) * ((dv (5 * k) 0).toRat) < Rc.nq (toRc (zI (u + 3 * k) (v - 4 * k) + ⟨h, 0⟩ - zI u v)) := by
  have e : toRc (zI (u + 3 * k) (v - 4 * k) + ⟨h, 0⟩ - zI u v) = ⟨3 * (k : Rat) + h.toRat, -4 * (k : Rat)⟩ := by
    rw [Cx.sub_eq, toRc_add, toRc_add, toRc_neg, zI_rat, zI_rat]
    refine Rc.cring ?_ ?_
    · show ((u + 3 * k : Int) : Rat) + h.toRat + -(u : Rat) = _
      rw [Rat.intCast_add, Rat.intCast_mul]
      show (u : Rat) + ((3 : Int) : Rat) * k + h.toRat + -(u : Rat) = 3 * (k : Rat) + h.toRat
      have e3 : ((3 : Int) : Rat) = 3 := rfl
      rw [e3]; grind
    · show ((v - 4 * k : Int) : Rat) + (0 : Dyadic).toRat + -(v : Rat) = _
      rw [Rat.intCast_sub, Rat.intCast_mul, Dyadic.toRat_zero]
      have e4 : ((4 : Int) : Rat) = 4 := rfl
      rw [e4]; grind
  rw [e, dv_rat, Rat.zpow_zero, Rat.mul_one, Rat.intCast_mul]
  have hk' : (0 : Rat) < (k : Rat) := by exact_mod_cast hk
  have e5 : ((5 : Int) : Rat) = 5 := rfl
  rw [e5]
  show _ < (3 * (k : Rat) + h.toRat) * (3 * (k : Rat) + h.toRat) + -4 * (k : Rat) * (-4 * (k : Rat))
  have p1 := Rat.mul_pos hk' h0
  have p2 := Rat.mul_pos h0 h0
  grind
theorem hair_pos (out : Nat) : 0 < (dv 1 0 * dv 1 (-(out : Int))).toRat := by
  rw [Dyadic.toRat_mul, dv_rat, dv_rat]
  have := two_pos (-(out : Int))
  have h2 := two_pos 0
  have e1 : ((1 : Int) : Rat) = 1 := rfl
  rw [e1, Rat.one_mul, Rat.one_mul]
  exact Rat.mul_pos h2 this
theorem sq345 (k : Int) : 3 * k * (3 * k) + -(4 * k) * -(4 * k) = 5 * k * (5 * k) := by grind
set_option maxHeartbeats 2000000 in
theorem discBorders_sat (u : Int) (hu : -32768 ≤ u ∧ u ≤ 32767) (v : Int) (hv : -32768 ≤ v ∧ v ≤ 32767) (n : Nat) (hn : n < 256) (o : Nat) (ho : o < 256) :
    Sat CT false 3 [.v (.int .i16 u), .v (.int .i16 v), .v (.int .u8 (n : Nat)), .v (.int .u8 (o : Nat))] (Bo true) := by
  refine sat_of annuluslaw10_DiscBorders.ok (by simp) ?_
  have DD := annuluslaw10_DiscBorders.dr
  simp only [drP, drPx, drPt, drR, drS, drT, bodyOf, Tryz.f3, Nat.reduceEqDiff, reduceIte, true_and, and_true] at DD
  have k0 := known10_s
  obtain ⟨k, hk⟩ : ∃ k : Int, k = (n : Int) + 1 := ⟨_, rfl⟩
  have w1 : IntKind.i64.wrap ((n : Nat) : Int) = (n : Int) := wrap_id (by omega)
  have w2 : IntKind.i64.wrap ((n : Int) + 1) = k := by rw [wrap_id (by omega)]; omega
  have w3 : IntKind.i64.wrap u = u := wrap_id (by omega)
  have w4 : IntKind.i64.wrap v = v := wrap_id (by omega)
  have w5 : IntKind.i64.wrap (5 * k) = 5 * k := wrap_id (by omega)
  have w6 : IntKind.i64.wrap (3 * k) = 3 * k := wrap_id (by omega)
  have w7 : IntKind.i64.wrap (u + 3 * k) = u + 3 * k := wrap_id (by omega)
  have w8 : IntKind.i64.wrap (4 * k) = 4 * k := wrap_id (by omega)
  have w9 : IntKind.i64.wrap (v - 4 * k) = v - 4 * k := wrap_id (by omega)
  have wa : IntKind.i64.wrap ((o : Nat) : Int) = (o : Int) := wrap_id (by omega)
  have wb : IntKind.i64.wrap (0 - (o : Int)) = -(o : Int) := by rw [wrap_id (by omega)]; omega
  have wc : IntKind.i64.wrap (-(o : Int)) = -(o : Int) := wrap_id (by omega)
  have a1 := rof8_sat u v (by omega) (by omega) (by omega) (by omega)
  have a2 := rof4_sat (5 * k) (by omega) (by omega)
  have a3 := rof8_sat (u + 3 * k) (v - 4 * k) (by omega) (by omega) (by omega) (by omega)
  have a4 := rof4_sat 1 (by omega) (by omega)
  have b1 : DB (dv 1 0) 10 := (few_c 1 (by decide)).1
  have a5 := rscale4_k b1 (-(o : Int)) (by omega) (by decide)
  have bh : DB (dv 1 0 * dv 1 (-(o : Int))) 300 := (b1.mul (DB.raw (m := 1) (e := -(o : Int)) (L := 1) (E := 256) (B := 257) (by decide) (by omega) (by decide))).mono (by decide)
  have hp := hair_pos o
  have bon : CB (zI (u + 3 * k) (v - 4 * k)) 64 := zI_db (by omega) (by omega)
  have bc : CB (zI u v) 64 := zI_db (by omega) (by omega)
  have bhc : CB (⟨dv 1 0 * dv 1 (-(o : Int)), 0⟩ : Cx) 300 := ⟨bh, DB.zero _⟩
  have a6 := radd8 bon bhc (by decide) (by decide)
  generalize dv 1 0 * dv 1 (-(o : Int)) = h at *
  rw [CI_i0] at a6
  have bo : CB (zI (u + 3 * k) (v - 4 * k) + ⟨h, 0⟩) 301 := ⟨(bon.1.mono (by decide)).add bhc.1, (bon.2.mono (by decide)).add bhc.2⟩
  have fh := far_hair u v k (by omega) hp
  generalize zI (u + 3 * k) (v - 4 * k) + ⟨h, 0⟩ = off at *
  have r5 : rp (dv (5 * k) 0) = dv (5 * k) 0 := rp_I _ (by omega)
  have tD := tI_rt (a := u) (b := v) (r := 5 * k) (by omega) (by omega) (by omega)
  have c1 := dhas_s tD (RC_C bon) (by decide) (by decide) (by decide)
  have sq := sq345 k
  have e1 : u + 3 * k - u = 3 * k := by omega
  have e2 : v - 4 * k - v = -(4 * k) := by omega
  rw [r5, decide_eq_true ((hasI u v (5 * k) (u + 3 * k) (v - 4 * k)).2 (by rw [e1, e2, sq]; exact Int.le_refl _))] at c1
  have c2 := dhas_s tD (RC_C bo) (by decide) (by decide) (by decide)
  rw [r5, decide_eq_false (fun q => by rw [has_rat] at q; exact absurd fh (Rat.not_lt.2 q))] at c2
  have c3 := dofc_s (RC_C bon) (by decide)
  have tO : RT (TI (zI (u + 3 * k) (v - 4 * k)) 0) (zI (u + 3 * k) (v - 4 * k)) (dv 0 0) 64 64 := RT_T bon (DB.zero _)
  have r0 : rp (dv 0 0) = dv 0 0 := rp_I 0 (by decide)
  have c4 := din_s tO tD (by decide) (by decide) (by decide) (by decide)
  rw [r5, r0, decide_eq_true ((inI (u + 3 * k) (v - 4 * k) 0 u v (5 * k)).2 ⟨by omega, by rw [e1, e2, sq, Int.sub_zero]; exact Int.le_refl _⟩)] at c4
  have tE : RT (TI off 0) off 0 301 301 := RT_T bo (DB.zero _)
  have c5 := dapart_s tD tE (by decide) (by decide) (by decide) (by decide)
  rw [r5, rp0, decide_eq_true (show apP (zI u v) (dv (5 * k) 0) off 0 by rw [ap_rat, Dyadic.toRat_zero, Rat.add_zero, nq_flip]; exact fh), TI_0] at c5
  have c6 := dapart_s tD tO (by decide) (by decide) (by decide) (by decide)
  have e3 : u - (u + 3 * k) = -(3 * k) := by omega
  have e4 : v - (v - 4 * k) = 4 * k := by omega
  rw [r5, r0, decide_eq_false (fun q => by
    have q2 := (apI u v (5 * k) (u + 3 * k) (v - 4 * k) 0).1 q
    rw [e3, e4, Int.add_zero, Int.neg_mul_neg] at q2
    rw [Int.neg_mul_neg] at sq
    omega)] at c6
  rw [TI_0] at c3 c4 c6
  unfold TI at *
  clear sq fh
  simp -implicitDefEqProofs only [go_sem, simprocAttr, -Int.reducePow, Tryz.f3, DD, w1, w2, w3, w4, w5, w6, w7, w8, w9, wa, wb, wc, List.take_succ_cons, List.drop_succ_cons]
  refine callK_q annuluslaw10_known.call (k0) rfl rfl ?_
  simp -implicitDefEqProofs only [go_sem, simprocAttr, -Int.reducePow, DD, w1, w2, w3, w4, w5, w6, w7, w8, w9, wa, wb, wc, List.take_succ_cons, List.drop_succ_cons]
  refine callK_q annulusref8_Of.call (a1) rfl rfl ?_
  simp -implicitDefEqProofs only [go_sem, simprocAttr, -Int.reducePow, DD, w1, w2, w3, w4, w5, w6, w7, w8, w9, wa, wb, wc, List.take_succ_cons, List.drop_succ_cons]
  refine callK_q annulusref4_Of.call (a2) rfl rfl ?_
  simp -implicitDefEqProofs only [go_sem, simprocAttr, -Int.reducePow, DD, w1, w2, w3, w4, w5, w6, w7, w8, w9, wa, wb, wc, List.take_succ_cons, List.drop_succ_cons]
  refine callK_q annulusref8_Of.call (a3) rfl rfl ?_
  simp -implicitDefEqProofs only [go_sem, simprocAttr, -Int.reducePow, DD, w1, w2, w3, w4, w5, w6, w7, w8, w9, wa, wb, wc, List.take_succ_cons, List.drop_succ_cons]
  refine callK_q annulusref4_Of.call (a4) rfl rfl ?_
  simp -implicitDefEqProofs only [go_sem, simprocAttr, -Int.reducePow, DD, w1, w2, w3, w4, w5, w6, w7, w8, w9, wa, wb, wc, List.take_succ_cons, List.drop_succ_cons]
  refine callK_q annulusref4_Scale.call (a5) rfl rfl ?_
  simp -implicitDefEqProofs only [go_sem, simprocAttr, -Int.reducePow, DD, w1, w2, w3, w4, w5, w6, w7, w8, w9, wa, wb, wc, List.take_succ_cons, List.drop_succ_cons]
  refine callK_q annulusref8_Add.call (a6) rfl rfl ?_
  simp -implicitDefEqProofs only [go_sem, simprocAttr, -Int.reducePow, DD, w1, w2, w3, w4, w5, w6, w7, w8, w9, wa, wb, wc, List.take_succ_cons, List.drop_succ_cons]
  refine callK_q disc_Has.call (c1) rfl rfl ?_
  simp -implicitDefEqProofs only [go_sem, simprocAttr, -Int.reducePow, DD, w1, w2, w3, w4, w5, w6, w7, w8, w9, wa, wb, wc, List.take_succ_cons, List.drop_succ_cons]
  refine callK_q disc_Has.call (c2) rfl rfl ?_
  simp -implicitDefEqProofs only [go_sem, simprocAttr, -Int.reducePow, DD, w1, w2, w3, w4, w5, w6, w7, w8, w9, wa, wb, wc, List.take_succ_cons, List.drop_succ_cons]
  refine callK_q disc_Of.call (c3) rfl rfl ?_
  simp -implicitDefEqProofs only [go_sem, simprocAttr, -Int.reducePow, DD, w1, w2, w3, w4, w5, w6, w7, w8, w9, wa, wb, wc, List.take_succ_cons, List.drop_succ_cons]
  refine callK_q disc_In.call (c4) rfl rfl ?_
  simp -implicitDefEqProofs only [go_sem, simprocAttr, -Int.reducePow, DD, w1, w2, w3, w4, w5, w6, w7, w8, w9, wa, wb, wc, List.take_succ_cons, List.drop_succ_cons]
  refine callK_q disc_Apart.call (c5) rfl rfl ?_
  simp -implicitDefEqProofs only [go_sem, simprocAttr, -Int.reducePow, DD, w1, w2, w3, w4, w5, w6, w7, w8, w9, wa, wb, wc, List.take_succ_cons, List.drop_succ_cons]
  refine callK_q disc_Of.call (c3) rfl rfl ?_
  simp -implicitDefEqProofs only [go_sem, simprocAttr, -Int.reducePow, DD, w1, w2, w3, w4, w5, w6, w7, w8, w9, wa, wb, wc, List.take_succ_cons, List.drop_succ_cons]
  refine callK_q disc_Apart.call (c6) rfl rfl ?_
  simp -implicitDefEqProofs only [go_sem, simprocAttr, -Int.reducePow, DD, w1, w2, w3, w4, w5, w6, w7, w8, w9, wa, wb, wc, List.take_succ_cons, List.drop_succ_cons]
end Go.Ab
