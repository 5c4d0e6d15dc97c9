/- Contracts of this seat's functions (of each call: what it answers), walked over the abstract machine, and the laws of numbers that they want. Conditions: those that each theorem states. -/
import Derived.Test.YthkpbnbbhlpkjaaGreatDoorM3
set_option linter.unusedVariables false
set_option maxRecDepth 20000
set_option linter.unusedSimpArgs false
set_option linter.unusedSectionVars false
namespace Go.Ab
open Go.Proofs
open Cx (zero one)
attribute [-go_sem] appF newsF
variable {a b : AV} {x y r s : Dyadic} {z w c d : Cx} {B C B' C' n m : Nat}
/-! small whole discs, what is known of them, what comes in -/
def zI (a b : Int) : Cx := ⟨dv a 0, dv b 0⟩
theorem zI_sub (a b c d : Int) : zI a b - zI c d = zI (a - c) (b - d) := Cx.ext' (dv_sub a c 0) (dv_sub b d 0)
theorem zI_add (a b c d : Int) : zI a b + zI c d = zI (a + c) (b + d) := Cx.ext' (dv_add a c 0) (dv_add b d 0)
theorem dvm0 (a b : Int) : dv a 0 * dv b 0 = dv (a * b) 0 := by rw [dv_mul, Int.add_zero]
theorem zI_mul (a b c d : Int) : zI a b * zI c d = zI (a * c - b * d) (a * d + b * c) := Cx.ext' (by show dv a 0 * dv c 0 - dv b 0 * dv d 0 = _; rw [dvm0, dvm0, dv_sub]; rfl) (by show dv a 0 * dv d 0 + dv b 0 * dv c 0 = _; rw [dvm0, dvm0, dv_add]; rfl)
theorem nrm_zI (a b : Int) : nrm (zI a b) = dv (a * a + b * b) 0 := by show dv a 0 * dv a 0 + dv b 0 * dv b 0 = _; rw [dvm0, dvm0, dv_add]
theorem rp_I (r : Int) (h : 0 ≤ r) : rp (dv r 0) = dv r 0 := by
  unfold rp
  have := Int.sign_nonneg_iff (x := r)
  rw [if_neg (by rw [dnum_sign]; omega)]
theorem sign_dI (a b : Int) : (dnum (dv a 0 - dv b 0)).sign = (a - b).sign := by rw [dv_sub, dnum_sign]
theorem sgn_le0 {z : Int} : z.sign ≤ 0 ↔ z ≤ 0 := Int.sign_nonpos_iff
theorem sgn_ge0 {z : Int} : 0 ≤ z.sign ↔ 0 ≤ z := Int.sign_nonneg_iff
theorem sgn_gt0 {z : Int} : 0 < z.sign ↔ 0 < z := Int.sign_pos_iff
theorem hasI (a b r c d : Int) : hasP (zI a b) (dv r 0) (zI c d) ↔ (c - a) * (c - a) + (d - b) * (d - b) ≤ r * r := by
  unfold hasP
  rw [zI_sub, nrm_zI, dvm0, sign_dI, sgn_le0]
  omega
theorem inI (a b r c d s : Int) : inP (zI a b) (dv r 0) (zI c d) (dv s 0) ↔ r ≤ s ∧ (a - c) * (a - c) + (b - d) * (b - d) ≤ (s - r) * (s - r) := by
  unfold inP
  rw [zI_sub, nrm_zI, dv_sub, dvm0, sign_dI, dnum_sign, sgn_le0, sgn_ge0]
  omega
theorem apI (a b r c d s : Int) : apP (zI a b) (dv r 0) (zI c d) (dv s 0) ↔ (r + s) * (r + s) < (a - c) * (a - c) + (b - d) * (b - d) := by
  unfold apP
  rw [zI_sub, nrm_zI, dv_add, dvm0, sign_dI, sgn_gt0]
  omega
theorem dI_db {v : Int} (h : v.natAbs < 2 ^ 64) : DB (dv v 0) 64 := DB.raw (L := 64) (E := 0) h (by decide) (by decide)
theorem zI_db {a b : Int} (h : a.natAbs < 2 ^ 64) (g : b.natAbs < 2 ^ 64) : CB (zI a b) 64 := ⟨dI_db h, dI_db g⟩
theorem tI_rt {a b r : Int} (h : a.natAbs < 2 ^ 64) (g : b.natAbs < 2 ^ 64) (i : r.natAbs < 2 ^ 64) : RT (TI (zI a b) (dv r 0)) (zI a b) (dv r 0) 64 64 := RT_T (zI_db h g) (dI_db i)
theorem of10_s (a b r : Int) (ha : a.natAbs < 1000000) (hb : b.natAbs < 1000000) (hr : r.natAbs < 1000000) : Sat CT false 65 [I64 a, I64 b, I64 r] (TI (zI a b) (dv r 0)) := by
  refine sat_of annuluslaw10_of.ok (by simp) ?_
  have DD := annuluslaw10_of.dr
  simp only [drP, drPx, drPt, drR, drS, drT, bodyOf, Tryz.f65, Nat.reduceEqDiff, reduceIte, true_and, and_true] at DD
  have u1 := rof8_sat a b (by omega) (by omega) (by omega) (by omega)
  have u2 := rof4_sat r (by omega) (by omega)
  simp -implicitDefEqProofs only [go_sem, simprocAttr, -Int.reducePow, Tryz.f65, DD, TI, zI, List.take_succ_cons, List.drop_succ_cons]
  refine callK_q annulusref8_Of.call (u1) rfl rfl ?_
  simp -implicitDefEqProofs only [go_sem, simprocAttr, -Int.reducePow, DD, TI, zI, List.take_succ_cons, List.drop_succ_cons]
  refine callK_q annulusref4_Of.call (u2) rfl rfl ?_
  simp -implicitDefEqProofs only [go_sem, simprocAttr, -Int.reducePow, DD, TI, zI, List.take_succ_cons, List.drop_succ_cons]
  rfl
theorem upr_id {P : Nat} (h0 : x ≠ 0) (h : bl (dnum x).natAbs ≤ P) : upr x P = x := by
  unfold upr
  rw [if_neg h0]
  exact if_pos (.inr (by unfold dtop; rw [if_neg h0]; omega))
theorem upr_I {v : Int} {P : Nat} (h0 : v ≠ 0) (h : v.natAbs < 2 ^ P) : upr (dv v 0) P = dv v 0 := by
  refine upr_id (fun e => h0 (dv_eq_zero.1 e)) ?_
  obtain ⟨e1, e2⟩ := bl_dnum h0 (e := 0)
  have := bl_le_of h
  omega
theorem far_I0 (P : Nat) : far (zI 0 0) P true = dv 0 0 := by
  unfold far
  rw [nrm_zI]
  exact droot_0 (by rw [show (0 : Int) * 0 + 0 * 0 = 0 from rfl]; decide) _ _
theorem far_I (v : Int) (h : 0 < v) {P : Nat} (hP : 1 ≤ P) (hv : v.natAbs < 2 ^ P) : far (zI v 0) P true = dv v 0 := by
  unfold far
  rw [nrm_zI, show v * v + 0 * 0 = v * v by omega, ← dvm0]
  obtain ⟨e1, e2⟩ := bl_dnum (m := v) (by omega) (e := 0)
  have := bl_le_of hv
  exact droot_exact (dnum_pos.2 h) hP (by omega) true
theorem mrad_known : mrad (zI 0 0) (dv 1 0) (zI 3 0) (dv 1 0) 20 = dv 4 0 := by
  unfold mrad mra
  rw [far_I0, far_I 3 (by decide) (by decide) (by decide), dvm0, dvm0, dvm0, dv_add, dv_add]
  exact upr_I (by decide) (by decide)
set_option maxHeartbeats 2000000 in
theorem known10_s : Sat CT false 10 [] (Bo true) := by
  refine sat_of annuluslaw10_known.ok (by simp) ?_
  have DD := annuluslaw10_known.dr
  simp only [drP, drPx, drPt, drR, drS, drT, bodyOf, Tryz.f10, Nat.reduceEqDiff, reduceIte, true_and, and_true] at DD
  have o1 := of10_s 0 0 1 (by decide) (by decide) (by decide)
  have o2 := of10_s 3 0 1 (by decide) (by decide) (by decide)
  have o3 := of10_s 0 0 (-1) (by decide) (by decide) (by decide)
  have o4 := of10_s 2 0 1 (by decide) (by decide) (by decide)
  have o5 := of10_s 0 0 2 (by decide) (by decide) (by decide)
  have o6 := of10_s 3 0 2 (by decide) (by decide) (by decide)
  have o7 := of10_s 0 0 4 (by decide) (by decide) (by decide)
  have o8 := of10_s 0 0 3 (by decide) (by decide) (by decide)
  have t1 := tI_rt (a := 0) (b := 0) (r := 1) (by decide) (by decide) (by decide)
  have t2 := tI_rt (a := 3) (b := 0) (r := 1) (by decide) (by decide) (by decide)
  have t3 := tI_rt (a := 0) (b := 0) (r := -1) (by decide) (by decide) (by decide)
  have t4 := tI_rt (a := 2) (b := 0) (r := 1) (by decide) (by decide) (by decide)
  have t5 := tI_rt (a := 0) (b := 0) (r := 2) (by decide) (by decide) (by decide)
  have b0 := zI_db (a := 0) (b := 0) (by decide) (by decide)
  have b3 := zI_db (a := 3) (b := 0) (by decide) (by decide)
  have d2 := dI_db (v := 2) (by decide)
  have d3 := dI_db (v := 3) (by decide)
  have d4 := dI_db (v := 4) (by decide)
  have c1 := dis_s t1 (by decide)
  rw [decide_eq_true (show 0 ≤ (dnum (dv 1 0)).sign by rw [dnum_sign]; decide)] at c1
  have c2 := dis_s t3 (by decide)
  rw [decide_eq_false (show ¬ 0 ≤ (dnum (dv (-1) 0)).sign by rw [dnum_sign]; decide)] at c2
  have r1 := rp_I 1 (by decide)
  have r2 := rp_I 2 (by decide)
  have c3 := dapart_s t1 t2 (by decide) (by decide) (by decide) (by decide)
  rw [r1, decide_eq_true ((apI 0 0 1 3 0 1).2 (by decide))] at c3
  have c4 := dapart_s t1 t4 (by decide) (by decide) (by decide) (by decide)
  rw [r1, decide_eq_false (fun q => absurd ((apI 0 0 1 2 0 1).1 q) (by decide))] at c4
  have p1 := rof8_sat 0 1 (by decide) (by decide) (by decide) (by decide)
  have c5 := dhas_s t1 (RC_C (zI_db (a := 0) (b := 1) (by decide) (by decide))) (by decide) (by decide) (by decide)
  rw [r1, decide_eq_true ((hasI 0 0 1 0 1).2 (by decide))] at c5
  have c6 := din_s t1 t5 (by decide) (by decide) (by decide) (by decide)
  rw [r1, r2, decide_eq_true ((inI 0 0 1 0 0 2).2 (by decide))] at c6
  have c7 := din_s t1 t2 (by decide) (by decide) (by decide) (by decide)
  rw [r1, decide_eq_false (fun q => absurd ((inI 0 0 1 3 0 1).1 q) (by decide))] at c7
  have c8 := dadds_s t1 t2 (by decide) (by decide) (by decide) (by decide)
  rw [r1, zI_add, dv_add] at c8
  have e8 := fequal_s b3 d2 b3 d2 (by decide) (by decide) (by decide) (by decide)
  rw [decide_eq_true ⟨rfl, rfl⟩] at e8
  have c9 := dmuls_s t1 t2 (by decide) (by decide) (by decide) (by decide) 20 (K := 200) (by decide) (by decide) (by decide) (by decide)
  rw [r1, show heldP 20 = 20 from rfl, mrad_known, zI_mul] at c9
  have e9 := fequal_s b0 d4 b0 d4 (by decide) (by decide) (by decide) (by decide)
  rw [decide_eq_true ⟨rfl, rfl⟩] at e9
  have c10 := dgrow_s t1 (by decide) (by decide) 3 (by decide) (by decide)
  rw [r1, dvm0, rp_I _ (by decide)] at c10
  have e10 := fequal_s b0 d3 b0 d3 (by decide) (by decide) (by decide) (by decide)
  rw [decide_eq_true ⟨rfl, rfl⟩] at e10
  have c11 := dsames_s t1 t1 (by decide) (by decide) (by decide) (by decide)
  rw [decide_eq_true ⟨rfl, rfl⟩] at c11
  unfold TI at *
  simp -implicitDefEqProofs only [go_sem, simprocAttr, -Int.reducePow, Tryz.f10, DD, List.take_succ_cons, List.drop_succ_cons]
  refine callK_q annuluslaw10_of.call (o1) rfl rfl ?_
  simp -implicitDefEqProofs only [go_sem, simprocAttr, -Int.reducePow, DD, List.take_succ_cons, List.drop_succ_cons]
  refine callK_q annuluslaw10_of.call (o2) rfl rfl ?_
  simp -implicitDefEqProofs only [go_sem, simprocAttr, -Int.reducePow, DD, List.take_succ_cons, List.drop_succ_cons]
  refine callK_q disc_Is.call (c1) rfl rfl ?_
  simp -implicitDefEqProofs only [go_sem, simprocAttr, -Int.reducePow, DD, List.take_succ_cons, List.drop_succ_cons]
  refine callK_q annuluslaw10_of.call (o3) rfl rfl ?_
  simp -implicitDefEqProofs only [go_sem, simprocAttr, -Int.reducePow, DD, List.take_succ_cons, List.drop_succ_cons]
  refine callK_q disc_Is.call (c2) rfl rfl ?_
  simp -implicitDefEqProofs only [go_sem, simprocAttr, -Int.reducePow, DD, List.take_succ_cons, List.drop_succ_cons]
  refine callK_q disc_Apart.call (c3) rfl rfl ?_
  simp -implicitDefEqProofs only [go_sem, simprocAttr, -Int.reducePow, DD, List.take_succ_cons, List.drop_succ_cons]
  refine callK_q annuluslaw10_of.call (o4) rfl rfl ?_
  simp -implicitDefEqProofs only [go_sem, simprocAttr, -Int.reducePow, DD, List.take_succ_cons, List.drop_succ_cons]
  refine callK_q disc_Apart.call (c4) rfl rfl ?_
  simp -implicitDefEqProofs only [go_sem, simprocAttr, -Int.reducePow, DD, List.take_succ_cons, List.drop_succ_cons]
  refine callK_q annulusref8_Of.call (p1) rfl rfl ?_
  simp -implicitDefEqProofs only [go_sem, simprocAttr, -Int.reducePow, DD, List.take_succ_cons, List.drop_succ_cons]
  refine callK_q disc_Has.call (c5) rfl rfl ?_
  simp -implicitDefEqProofs only [go_sem, simprocAttr, -Int.reducePow, DD, List.take_succ_cons, List.drop_succ_cons]
  refine callK_q annuluslaw10_of.call (o5) rfl rfl ?_
  simp -implicitDefEqProofs only [go_sem, simprocAttr, -Int.reducePow, DD, List.take_succ_cons, List.drop_succ_cons]
  refine callK_q disc_In.call (c6) rfl rfl ?_
  simp -implicitDefEqProofs only [go_sem, simprocAttr, -Int.reducePow, DD, List.take_succ_cons, List.drop_succ_cons]
  refine callK_q disc_In.call (c7) rfl rfl ?_
  simp -implicitDefEqProofs only [go_sem, simprocAttr, -Int.reducePow, DD, List.take_succ_cons, List.drop_succ_cons]
  refine callK_q disc_Add.call (c8) rfl rfl ?_
  simp -implicitDefEqProofs only [go_sem, simprocAttr, -Int.reducePow, DD, List.take_succ_cons, List.drop_succ_cons]
  refine callK_q annuluslaw10_of.call (o6) rfl rfl ?_
  simp -implicitDefEqProofs only [go_sem, simprocAttr, -Int.reducePow, DD, List.take_succ_cons, List.drop_succ_cons]
  refine callK_q annulusref8_EqualDisc.call (e8) rfl rfl ?_
  simp -implicitDefEqProofs only [go_sem, simprocAttr, -Int.reducePow, DD, List.take_succ_cons, List.drop_succ_cons]
  refine callK_q disc_Mul.call (c9) rfl rfl ?_
  simp -implicitDefEqProofs only [go_sem, simprocAttr, -Int.reducePow, DD, List.take_succ_cons, List.drop_succ_cons]
  refine callK_q annuluslaw10_of.call (o7) rfl rfl ?_
  simp -implicitDefEqProofs only [go_sem, simprocAttr, -Int.reducePow, DD, List.take_succ_cons, List.drop_succ_cons]
  refine callK_q annulusref8_EqualDisc.call (e9) rfl rfl ?_
  simp -implicitDefEqProofs only [go_sem, simprocAttr, -Int.reducePow, DD, List.take_succ_cons, List.drop_succ_cons]
  refine callK_q disc_Grow.call (c10) rfl rfl ?_
  simp -implicitDefEqProofs only [go_sem, simprocAttr, -Int.reducePow, DD, List.take_succ_cons, List.drop_succ_cons]
  refine callK_q annuluslaw10_of.call (o8) rfl rfl ?_
  simp -implicitDefEqProofs only [go_sem, simprocAttr, -Int.reducePow, DD, List.take_succ_cons, List.drop_succ_cons]
  refine callK_q annulusref8_EqualDisc.call (e10) rfl rfl ?_
  simp -implicitDefEqProofs only [go_sem, simprocAttr, -Int.reducePow, DD, List.take_succ_cons, List.drop_succ_cons]
  refine callK_q disc_Same.call (c11) rfl rfl ?_
  simp -implicitDefEqProofs only [go_sem, simprocAttr, -Int.reducePow, DD, List.take_succ_cons, List.drop_succ_cons]
abbrev few1 (l : List Nat) (e : Int) : Prop := l.length ≤ 10 ∧ -1000 ≤ e ∧ e ≤ 1000
theorem few10_s (n : Bool) (l : List Nat) (e : Int) : Sat CT false 77 [DA n l e] (Bo (decide (few1 l e))) := by
  refine sat_of annuluslaw10_few.ok (by simp) ?_
  have DD := annuluslaw10_few.dr
  simp only [drP, drPx, drPt, drR, drS, drT, bodyOf, Tryz.f77, Nat.reduceEqDiff, reduceIte, true_and, and_true] at DD
  by_cases h1 : (l.length : Int) ≤ 10
  · by_cases h2 : -1000 ≤ e
    · by_cases h3 : e ≤ 1000
      · rw [decide_eq_true ⟨by omega, h2, h3⟩]
        simp -implicitDefEqProofs only [go_sem, simprocAttr, -Int.reducePow, Tryz.f77, DD, h1, h2, h3, ge_iff_le, List.take_succ_cons, List.drop_succ_cons]
      · rw [decide_eq_false (fun q => h3 q.2.2)]
        simp -implicitDefEqProofs only [go_sem, simprocAttr, -Int.reducePow, Tryz.f77, DD, h1, h2, h3, ge_iff_le, List.take_succ_cons, List.drop_succ_cons]
    · rw [decide_eq_false (fun q => h2 q.2.1)]
      simp -implicitDefEqProofs only [go_sem, simprocAttr, -Int.reducePow, Tryz.f77, DD, h1, h2, ge_iff_le, List.take_succ_cons, List.drop_succ_cons]
  · rw [decide_eq_false (fun q => h1 (by omega))]
    simp -implicitDefEqProofs only [go_sem, simprocAttr, -Int.reducePow, Tryz.f77, DD, h1, ge_iff_le, List.take_succ_cons, List.drop_succ_cons]
abbrev fewR (r : Raw) : Prop := few1 r.l r.e ∧ few1 r.k r.f
theorem and_dec {p q : Prop} [Decidable p] [Decidable q] (h : p) : decide (p ∧ q) = decide q := decide_eq_decide.2 ⟨fun g => g.2, fun g => ⟨h, g⟩⟩
theorem and_dec0 {p q : Prop} [Decidable p] [Decidable q] (h : ¬ p) : decide (p ∧ q) = false := decide_eq_false (fun g => h g.1)
theorem fewC_s (n : Bool) (l : List Nat) (e : Int) (m : Bool) (k : List Nat) (f : Int) : Sat CT false 20 [.agg [Bo n, U32 l, I64 e, Bo m, U32 k, I64 f]] (Bo (decide (few1 l e ∧ few1 k f))) := by
  refine sat_of annuluslaw10_fewCplx.ok (by simp) ?_
  have DD := annuluslaw10_fewCplx.dr
  simp only [drP, drPx, drPt, drR, drS, drT, bodyOf, Tryz.f20, Nat.reduceEqDiff, reduceIte, true_and, and_true] at DD
  have u1 := few10_s n l e
  have u2 := few10_s m k f
  by_cases h1 : few1 l e
  · rw [decide_eq_true h1] at u1
    rw [and_dec h1]
    simp -implicitDefEqProofs only [go_sem, simprocAttr, -Int.reducePow, Tryz.f20, DD, List.take_succ_cons, List.drop_succ_cons]
    refine callK_q annuluslaw10_few.call (u1) rfl rfl ?_
    simp -implicitDefEqProofs only [go_sem, simprocAttr, -Int.reducePow, DD, List.take_succ_cons, List.drop_succ_cons]
    refine callK_q annuluslaw10_few.call (u2) rfl rfl ?_
    simp -implicitDefEqProofs only [go_sem, simprocAttr, -Int.reducePow, DD, List.take_succ_cons, List.drop_succ_cons]
  · rw [decide_eq_false h1] at u1
    rw [and_dec0 h1]
    simp -implicitDefEqProofs only [go_sem, simprocAttr, -Int.reducePow, Tryz.f20, DD, List.take_succ_cons, List.drop_succ_cons]
    refine callK_q annuluslaw10_few.call (u1) rfl rfl ?_
    simp -implicitDefEqProofs only [go_sem, simprocAttr, -Int.reducePow, DD, List.take_succ_cons, List.drop_succ_cons]
/-- a disc that came in -/
structure RawT where
  c : Raw
  o : Bool
  p : List Nat
  q : Int
def RawT.cells (t : RawT) : List AV := [Bo t.c.n, U32 t.c.l, I64 t.c.e, Bo t.c.m, U32 t.c.k, I64 t.c.f, Bo t.o, U32 t.p, I64 t.q]
def RawT.ok (t : RawT) : Prop := t.c.ok ∧ Lm t.p
def RawT.rd (t : RawT) : Dyadic := dv (iv t.o t.p) t.q
abbrev RawT.few (t : RawT) : Prop := fewR t.c ∧ few1 t.p t.q
theorem rd10 {n : Bool} {l : List Nat} {e : Int} (hl : Lm l) (h : few1 l e) : RD (DA n l e) (dv (iv n l) e) 1320 := by
  obtain ⟨h1, h2, h3⟩ := h
  have hv : Lt2 (nv l) 320 := nv_Lt2 hl h1
  have ha : (iv n l).natAbs = nv l := abs_iv n l
  exact ⟨n, l, e, rfl, hl, rfl, hv.mono (by decide), by omega, by omega, DB.rawL (L := 320) (E := 1000) (by rw [ha]; exact hv) (by omega) (by decide)⟩
theorem Raw.rc10 {r : Raw} (h : r.ok) (hs : fewR r) : RC (.agg r.cells) r.z 1320 := ⟨_, _, _, _, _, _, rfl, rd10 h.1 hs.1, rd10 h.2.1 hs.2⟩
theorem RawT.rt {t : RawT} (h : t.ok) (hs : t.few) : RT (.agg t.cells) t.c.z t.rd 1320 1320 := ⟨_, _, _, _, _, _, _, _, _, rfl, rd10 h.1.1 hs.1.1, rd10 h.1.2.1 hs.1.2, rd10 h.2 hs.2⟩
theorem fewD_s (t : RawT) : Sat CT false 19 [.agg t.cells] (Bo (decide t.few)) := by
  refine sat_of annuluslaw10_fewDisc.ok (by simp) ?_
  have DD := annuluslaw10_fewDisc.dr
  simp only [drP, drPx, drPt, drR, drS, drT, bodyOf, Tryz.f19, Nat.reduceEqDiff, reduceIte, true_and, and_true] at DD
  obtain ⟨⟨n, l, e, m, k, f⟩, o, p, q⟩ := t
  have u1 := fewC_s n l e m k f
  have u2 := few10_s o p q
  by_cases h1 : few1 l e ∧ few1 k f
  · rw [decide_eq_true h1] at u1
    rw [show decide (RawT.few ⟨⟨n, l, e, m, k, f⟩, o, p, q⟩) = decide (few1 p q) from and_dec (p := few1 l e ∧ few1 k f) h1]
    simp -implicitDefEqProofs only [go_sem, simprocAttr, -Int.reducePow, Tryz.f19, DD, RawT.cells, List.take_succ_cons, List.drop_succ_cons]
    refine callK_q annuluslaw10_fewCplx.call (u1) rfl rfl ?_
    simp -implicitDefEqProofs only [go_sem, simprocAttr, -Int.reducePow, DD, RawT.cells, List.take_succ_cons, List.drop_succ_cons]
    refine callK_q annuluslaw10_few.call (u2) rfl rfl ?_
    simp -implicitDefEqProofs only [go_sem, simprocAttr, -Int.reducePow, DD, RawT.cells, List.take_succ_cons, List.drop_succ_cons]
  · rw [decide_eq_false h1] at u1
    rw [show decide (RawT.few ⟨⟨n, l, e, m, k, f⟩, o, p, q⟩) = false from and_dec0 (p := few1 l e ∧ few1 k f) h1]
    simp -implicitDefEqProofs only [go_sem, simprocAttr, -Int.reducePow, Tryz.f19, DD, RawT.cells, List.take_succ_cons, List.drop_succ_cons]
    refine callK_q annuluslaw10_fewCplx.call (u1) rfl rfl ?_
    simp -implicitDefEqProofs only [go_sem, simprocAttr, -Int.reducePow, DD, RawT.cells, List.take_succ_cons, List.drop_succ_cons]
end Go.Ab
