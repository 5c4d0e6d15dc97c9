/- Contracts of this seat's functions (of each call: what it answers), walked over the abstract machine, and the laws of numbers that they want. Conditions: those that each theorem states. -/
import Derived.Test.YthkpbnbbhlpkjaaGreatDoorM8
import Derived.Test.YthkpbnbbhlpkjaaGreatDoorMQ
set_option linter.unusedVariables false
set_option maxRecDepth 20000
set_option linter.unusedSimpArgs false
set_option linter.unusedSectionVars false
namespace Go.Ab
open Go.Proofs
open Cx (zero one)
attribute [-go_sem] appF newsF
variable {a b : AV} {x y r s t : Dyadic} {z w c d e : Cx} {B C B' C' n m : Nat}
/-! the law of rectangles -/
theorem fewReal_s (n : Bool) (l : List Nat) (e : Int) (m : Bool) (k : List Nat) (f : Int) : Sat CT false 104 [.agg [Bo n, U32 l, I64 e, Bo m, U32 k, I64 f]] (Bo (decide (few1 l e ∧ few1 k f))) := by
  refine sat_of annuluslaw10_fewReal.ok (by simp) ?_
  have DD := annuluslaw10_fewReal.dr
  simp only [drP, drPx, drPt, drR, drS, drT, bodyOf, Tryz.f104, Nat.reduceEqDiff, reduceIte, true_and, and_true] at DD
  have u1 := few10_s n l e
  have u2 := few10_s m k f
  by_cases h1 : few1 l e
  · rw [decide_eq_true h1] at u1
    rw [and_dec h1]
    simp -implicitDefEqProofs only [go_sem, simprocAttr, -Int.reducePow, Tryz.f104, DD, List.take_succ_cons, List.drop_succ_cons]
    refine callK_q annuluslaw10_few.call (u1) rfl rfl ?_
    simp -implicitDefEqProofs only [go_sem, simprocAttr, -Int.reducePow, DD, List.take_succ_cons, List.drop_succ_cons]
    refine callK_q annuluslaw10_few.call (u2) rfl rfl ?_
    simp -implicitDefEqProofs only [go_sem, simprocAttr, -Int.reducePow, DD, List.take_succ_cons, List.drop_succ_cons]
  · rw [decide_eq_false h1] at u1
    rw [and_dec0 h1]
    simp -implicitDefEqProofs only [go_sem, simprocAttr, -Int.reducePow, Tryz.f104, DD, List.take_succ_cons, List.drop_succ_cons]
    refine callK_q annuluslaw10_few.call (u1) rfl rfl ?_
    simp -implicitDefEqProofs only [go_sem, simprocAttr, -Int.reducePow, DD, List.take_succ_cons, List.drop_succ_cons]
abbrev RawQ.few (t : RawQ) : Prop := fewR t.a ∧ fewR t.b
theorem fewQ_s (t : RawQ) : Sat CT false 44 [.agg t.cells] (Bo (decide t.few)) := by
  refine sat_of annuluslaw10_fewRect.ok (by simp) ?_
  have DD := annuluslaw10_fewRect.dr
  simp only [drP, drPx, drPt, drR, drS, drT, bodyOf, Tryz.f44, Nat.reduceEqDiff, reduceIte, true_and, and_true] at DD
  obtain ⟨⟨n, l, e, m, k, f⟩, ⟨n', l', e', m', k', f'⟩⟩ := t
  have u1 := fewReal_s n l e m k f
  have u2 := fewReal_s n' l' e' m' k' f'
  by_cases h1 : few1 l e ∧ few1 k f
  · rw [decide_eq_true h1] at u1
    rw [show decide (RawQ.few ⟨⟨n, l, e, m, k, f⟩, ⟨n', l', e', m', k', f'⟩⟩) = decide (few1 l' e' ∧ few1 k' f') from and_dec (p := few1 l e ∧ few1 k f) h1]
    simp -implicitDefEqProofs only [go_sem, simprocAttr, -Int.reducePow, Tryz.f44, DD, RawQ.cells, List.take_succ_cons, List.drop_succ_cons]
    refine callK_q annuluslaw10_fewReal.call (u1) rfl rfl ?_
    simp -implicitDefEqProofs only [go_sem, simprocAttr, -Int.reducePow, DD, RawQ.cells, List.take_succ_cons, List.drop_succ_cons]
    refine callK_q annuluslaw10_fewReal.call (u2) rfl rfl ?_
    simp -implicitDefEqProofs only [go_sem, simprocAttr, -Int.reducePow, DD, RawQ.cells, List.take_succ_cons, List.drop_succ_cons]
  · rw [decide_eq_false h1] at u1
    rw [show decide (RawQ.few ⟨⟨n, l, e, m, k, f⟩, ⟨n', l', e', m', k', f'⟩⟩) = false from and_dec0 (p := few1 l e ∧ few1 k f) h1]
    simp -implicitDefEqProofs only [go_sem, simprocAttr, -Int.reducePow, Tryz.f44, DD, RawQ.cells, List.take_succ_cons, List.drop_succ_cons]
    refine callK_q annuluslaw10_fewReal.call (u1) rfl rfl ?_
    simp -implicitDefEqProofs only [go_sem, simprocAttr, -Int.reducePow, DD, RawQ.cells, List.take_succ_cons, List.drop_succ_cons]
theorem mid_mnmx (x y : Dyadic) : mid (dmn x y) (dmx x y) = mid x y := by
  unfold mid
  rcases fmn_mx x y with ⟨_, e1, e2⟩ | ⟨_, e1, e2⟩
  · rw [e1, e2, show y + x = x + y by grind]
  · rw [e1, e2]
theorem two_half : dv 1 (-1) + dv 1 (-1) = 1 := by decide
theorem mid_flip (x y : Dyadic) : dmn x y - mid x y = -(dmx x y - mid x y) := by
  have e0 : dmn x y + dmx x y = x + y := by
    rcases fmn_mx x y with ⟨_, e1, e2⟩ | ⟨_, e1, e2⟩
    · rw [e1, e2]; grind
    · rw [e1, e2]
  have e1 : mid x y + mid x y = x + y := by
    have e2 : mid x y + mid x y = (x + y) * (dv 1 (-1) + dv 1 (-1)) := by unfold mid; grind
    rw [e2, two_half]; grind
  grind
theorem holds_ll (x y z w : Dyadic) {P : Nat} (hP : 1 ≤ P) : hasP ⟨mid x y, mid z w⟩ (far (crn x y z w) P true) ⟨dmn x y, dmn z w⟩ := by
  rw [has_rat]
  have h := (far_rat (crn x y z w) hP).2.1
  rw [← nrm_rat] at h ⊢
  have e : nrm ((⟨dmn x y, dmn z w⟩ : Cx) - ⟨mid x y, mid z w⟩) = nrm (crn x y z w) := by
    show (dmn x y - mid x y) * (dmn x y - mid x y) + (dmn z w - mid z w) * (dmn z w - mid z w) = (dmx x y - mid x y) * (dmx x y - mid x y) + (dmx z w - mid z w) * (dmx z w - mid z w)
    rw [mid_flip, mid_flip]; grind
  rw [e]; exact h
theorem holds_hl (x y z w : Dyadic) {P : Nat} (hP : 1 ≤ P) : hasP ⟨mid x y, mid z w⟩ (far (crn x y z w) P true) ⟨dmx x y, dmn z w⟩ := by
  rw [has_rat]
  have h := (far_rat (crn x y z w) hP).2.1
  rw [← nrm_rat] at h ⊢
  have e : nrm ((⟨dmx x y, dmn z w⟩ : Cx) - ⟨mid x y, mid z w⟩) = nrm (crn x y z w) := by
    show (dmx x y - mid x y) * (dmx x y - mid x y) + (dmn z w - mid z w) * (dmn z w - mid z w) = (dmx x y - mid x y) * (dmx x y - mid x y) + (dmx z w - mid z w) * (dmx z w - mid z w)
    rw [mid_flip z w]; grind
  rw [e]; exact h
theorem held200' (p : Int) : heldP (min p 200) ≤ 200 := by unfold heldP; omega
set_option maxHeartbeats 4000000 in
theorem discRects_sat (X : RawQ) (hX : X.a.ok ∧ X.b.ok) (Y : RawT) (hY : Y.ok ∧ (-9223372036854775808 ≤ Y.q ∧ Y.q ≤ 9223372036854775807)) (p : Int) :
    Sat CT false 5 [.agg X.cells, .agg Y.cells, I64 p] (Bo true) := by
  refine sat_of annuluslaw10_DiscRects.ok (by simp) ?_
  have DD := annuluslaw10_DiscRects.dr
  simp only [drP, drPx, drPt, drR, drS, drT, bodyOf, Tryz.f5, Nat.reduceEqDiff, reduceIte, true_and, and_true] at DD
  have k0 := known10_s
  obtain ⟨⟨xn, xl, xe, xm, xk, xf⟩, ⟨xn', xl', xe', xm', xk', xf'⟩⟩ := X
  obtain ⟨⟨yn, yl, ye, ym, yk, yf⟩, yo, yp, yq⟩ := Y
  have f1 := fewQ_s ⟨⟨xn, xl, xe, xm, xk, xf⟩, ⟨xn', xl', xe', xm', xk', xf'⟩⟩
  have f2 := fewD_s ⟨⟨yn, yl, ye, ym, yk, yf⟩, yo, yp, yq⟩
  simp only [RawQ.cells, RawT.cells, Raw.cells] at *
  by_cases q1 : RawQ.few ⟨⟨xn, xl, xe, xm, xk, xf⟩, ⟨xn', xl', xe', xm', xk', xf'⟩⟩
  · rw [decide_eq_true q1] at f1
    by_cases q2 : RawT.few ⟨⟨yn, yl, ye, ym, yk, yf⟩, yo, yp, yq⟩
    · rw [decide_eq_true q2] at f2
      by_cases q4 : 200 < p ∧ p ≤ 4000
      · obtain ⟨q41, q42⟩ := q4
        simp -implicitDefEqProofs only [go_sem, simprocAttr, -Int.reducePow, Tryz.f5, DD, q41, q42, gt_iff_lt, List.take_succ_cons, List.drop_succ_cons]
        refine callK_q annuluslaw10_known.call (k0) rfl rfl ?_
        simp -implicitDefEqProofs only [go_sem, simprocAttr, -Int.reducePow, DD, q41, q42, gt_iff_lt, List.take_succ_cons, List.drop_succ_cons]
        refine callK_q annuluslaw10_fewRect.call (f1) rfl rfl ?_
        simp -implicitDefEqProofs only [go_sem, simprocAttr, -Int.reducePow, DD, q41, q42, gt_iff_lt, List.take_succ_cons, List.drop_succ_cons]
        refine callK_q annuluslaw10_fewDisc.call (f2) rfl rfl ?_
        simp -implicitDefEqProofs only [go_sem, simprocAttr, -Int.reducePow, DD, q41, q42, gt_iff_lt, List.take_succ_cons, List.drop_succ_cons]
      · skip
        have tY := RawT.rt hY.1 q2
        have x1 := rd10 (n := xn) hX.1.1 q1.1.1
        have x2 := rd10 (n := xm) hX.1.2.1 q1.1.2
        have x3 := rd10 (n := xn') hX.2.1 q1.2.1
        have x4 := rd10 (n := xm') hX.2.2.1 q1.2.2
        have tX : RQ (.agg [Bo xn, U32 xl, I64 xe, Bo xm, U32 xk, I64 xf, Bo xn', U32 xl', I64 xe', Bo xm', U32 xk', I64 xf']) _ _ _ _ 1320 := ⟨_, _, _, _, _, _, _, _, _, _, _, _, rfl, x1, x2, x3, x4⟩
        have hP := held200' p
        have hP1 := (heldP_v (min p 200)).2.2.1
        simp only [RawT.cells, Raw.cells] at *
        have b1 := x1.db
        have b2 := x2.db
        have b3 := x3.db
        have b4 := x4.db
        clear x1 x2 x3 x4
        generalize RawT.rd ⟨⟨yn, yl, ye, ym, yk, yf⟩, yo, yp, yq⟩ = ry at *
        generalize Raw.z ⟨yn, yl, ye, ym, yk, yf⟩ = cy at *
        generalize dv (iv xn xl) xe = v1 at *
        generalize dv (iv xm xk) xf = v2 at *
        generalize dv (iv xn' xl') xe' = v3 at *
        generalize dv (iv xm' xk') xf' = v4 at *
        have a1 := frect_s tX (by decide)
        have a2 := fdisc_s tY (by decide) (by decide)
        have a3 := daround_s tX (by decide) (min p 200)
        have m1 := dmn_db b1 b2
        have m2 := dmx_db b1 b2
        have m3 := dmn_db b3 b4
        have m4 := dmx_db b3 b4
        have a4 := faround_s m1 m2 m3 m4 (by decide) (min p 200) (by omega)
        rw [mid_mnmx, mid_mnmx, show (⟨dmx v1 v2, dmx v3 v4⟩ : Cx) - ⟨mid v1 v2, mid v3 v4⟩ = crn v1 v2 v3 v4 from rfl] at a4
        have bm : CB (⟨mid v1 v2, mid v3 v4⟩ : Cx) 1323 := ⟨mid_db b1 b2, mid_db b3 b4⟩
        have bc := crn_db b1 b2 b3 b4
        have bf := (far_db2 bc hP1 true).mono (C := 1540) (by omega)
        have h1 := fholds_s bm bf (w := ⟨dmn v1 v2, dmn v3 v4⟩) ⟨m1, m3⟩ (by decide) (by decide) (by decide)
        rw [decide_eq_true (holds_ll v1 v2 v3 v4 hP1)] at h1
        have h2 := fholds_s bm bf (w := ⟨dmx v1 v2, dmn v3 v4⟩) ⟨m2, m3⟩ (by decide) (by decide) (by decide)
        rw [decide_eq_true (holds_hl v1 v2 v3 v4 hP1)] at h2
        generalize far (crn v1 v2 v3 v4) (heldP (min p 200)) true = R at *
        have a5 := fequal_s bm bf bm bf (by decide) (by decide) (by decide) (by decide)
        rw [decide_eq_true ⟨rfl, rfl⟩] at a5
        have i1 := dinside_s tY (by decide) (by decide)
        have i2 := fsquare_s tY.cb (rp_db tY.db) (by decide) (by decide)
        have i3 := feqrect_s (tY.cb.1.sub (rp_db tY.db)) (tY.cb.1.add (rp_db tY.db)) (tY.cb.2.sub (rp_db tY.db)) (tY.cb.2.add (rp_db tY.db)) (by decide)
        clear tX tY b1 b2 b3 b4 m1 m2 m3 m4 bm bc bf hX hY q1 q2
        unfold TI QI at *
        by_cases q5 : 200 < p
        · have q6 : ¬ p ≤ 4000 := fun q => q4 ⟨q5, q⟩
          simp -implicitDefEqProofs only [go_sem, simprocAttr, -Int.reducePow, Tryz.f5, DD, q5, q6, gt_iff_lt, ge_iff_le, List.take_succ_cons, List.drop_succ_cons]
          refine callK_q annuluslaw10_known.call (k0) rfl rfl ?_
          simp -implicitDefEqProofs only [go_sem, simprocAttr, -Int.reducePow, DD, q5, q6, gt_iff_lt, ge_iff_le, List.take_succ_cons, List.drop_succ_cons]
          refine callK_q annuluslaw10_fewRect.call (f1) rfl rfl ?_
          simp -implicitDefEqProofs only [go_sem, simprocAttr, -Int.reducePow, DD, q5, q6, gt_iff_lt, ge_iff_le, List.take_succ_cons, List.drop_succ_cons]
          refine callK_q annuluslaw10_fewDisc.call (f2) rfl rfl ?_
          simp -implicitDefEqProofs only [go_sem, simprocAttr, -Int.reducePow, DD, q5, q6, gt_iff_lt, ge_iff_le, List.take_succ_cons, List.drop_succ_cons]
          refine callK_q annulusref8_Rect.call (a1) rfl rfl ?_
          simp -implicitDefEqProofs only [go_sem, simprocAttr, -Int.reducePow, DD, q5, q6, gt_iff_lt, ge_iff_le, List.take_succ_cons, List.drop_succ_cons]
          refine callK_q annulusref8_Disc.call (a2) rfl rfl ?_
          simp -implicitDefEqProofs only [go_sem, simprocAttr, -Int.reducePow, DD, q5, q6, gt_iff_lt, ge_iff_le, List.take_succ_cons, List.drop_succ_cons]
          refine callK_q disc_Around.call (a3) rfl rfl ?_
          simp -implicitDefEqProofs only [go_sem, simprocAttr, -Int.reducePow, DD, q5, q6, gt_iff_lt, ge_iff_le, List.take_succ_cons, List.drop_succ_cons]
          refine callK_q annulusref8_Around.call (a4) rfl rfl ?_
          simp -implicitDefEqProofs only [go_sem, simprocAttr, -Int.reducePow, DD, q5, q6, gt_iff_lt, ge_iff_le, List.take_succ_cons, List.drop_succ_cons]
          refine callK_q annulusref8_EqualDisc.call (a5) rfl rfl ?_
          simp -implicitDefEqProofs only [go_sem, simprocAttr, -Int.reducePow, DD, q5, q6, gt_iff_lt, ge_iff_le, List.take_succ_cons, List.drop_succ_cons]
          refine callK_q disc_Inside.call (i1) rfl rfl ?_
          simp -implicitDefEqProofs only [go_sem, simprocAttr, -Int.reducePow, DD, q5, q6, gt_iff_lt, ge_iff_le, List.take_succ_cons, List.drop_succ_cons]
          refine callK_q annulusref8_Square.call (i2) rfl rfl ?_
          simp -implicitDefEqProofs only [go_sem, simprocAttr, -Int.reducePow, DD, q5, q6, gt_iff_lt, ge_iff_le, List.take_succ_cons, List.drop_succ_cons]
          refine callK_q annulusref8_EqualRect.call (i3) rfl rfl ?_
          simp -implicitDefEqProofs only [go_sem, simprocAttr, -Int.reducePow, DD, q5, q6, gt_iff_lt, ge_iff_le, List.take_succ_cons, List.drop_succ_cons]
          refine callK_q annulusref8_Holds.call (h1) rfl rfl ?_
          simp -implicitDefEqProofs only [go_sem, simprocAttr, -Int.reducePow, DD, q5, q6, gt_iff_lt, ge_iff_le, List.take_succ_cons, List.drop_succ_cons]
          refine callK_q annulusref8_Holds.call (h2) rfl rfl ?_
          simp -implicitDefEqProofs only [go_sem, simprocAttr, -Int.reducePow, DD, q5, q6, gt_iff_lt, ge_iff_le, List.take_succ_cons, List.drop_succ_cons]
        · skip
          simp -implicitDefEqProofs only [go_sem, simprocAttr, -Int.reducePow, Tryz.f5, DD, q5, gt_iff_lt, ge_iff_le, List.take_succ_cons, List.drop_succ_cons]
          refine callK_q annuluslaw10_known.call (k0) rfl rfl ?_
          simp -implicitDefEqProofs only [go_sem, simprocAttr, -Int.reducePow, DD, q5, gt_iff_lt, ge_iff_le, List.take_succ_cons, List.drop_succ_cons]
          refine callK_q annuluslaw10_fewRect.call (f1) rfl rfl ?_
          simp -implicitDefEqProofs only [go_sem, simprocAttr, -Int.reducePow, DD, q5, gt_iff_lt, ge_iff_le, List.take_succ_cons, List.drop_succ_cons]
          refine callK_q annuluslaw10_fewDisc.call (f2) rfl rfl ?_
          simp -implicitDefEqProofs only [go_sem, simprocAttr, -Int.reducePow, DD, q5, gt_iff_lt, ge_iff_le, List.take_succ_cons, List.drop_succ_cons]
          refine callK_q annulusref8_Rect.call (a1) rfl rfl ?_
          simp -implicitDefEqProofs only [go_sem, simprocAttr, -Int.reducePow, DD, q5, gt_iff_lt, ge_iff_le, List.take_succ_cons, List.drop_succ_cons]
          refine callK_q annulusref8_Disc.call (a2) rfl rfl ?_
          simp -implicitDefEqProofs only [go_sem, simprocAttr, -Int.reducePow, DD, q5, gt_iff_lt, ge_iff_le, List.take_succ_cons, List.drop_succ_cons]
          refine callK_q disc_Around.call (a3) rfl rfl ?_
          simp -implicitDefEqProofs only [go_sem, simprocAttr, -Int.reducePow, DD, q5, gt_iff_lt, ge_iff_le, List.take_succ_cons, List.drop_succ_cons]
          refine callK_q annulusref8_Around.call (a4) rfl rfl ?_
          simp -implicitDefEqProofs only [go_sem, simprocAttr, -Int.reducePow, DD, q5, gt_iff_lt, ge_iff_le, List.take_succ_cons, List.drop_succ_cons]
          refine callK_q annulusref8_EqualDisc.call (a5) rfl rfl ?_
          simp -implicitDefEqProofs only [go_sem, simprocAttr, -Int.reducePow, DD, q5, gt_iff_lt, ge_iff_le, List.take_succ_cons, List.drop_succ_cons]
          refine callK_q disc_Inside.call (i1) rfl rfl ?_
          simp -implicitDefEqProofs only [go_sem, simprocAttr, -Int.reducePow, DD, q5, gt_iff_lt, ge_iff_le, List.take_succ_cons, List.drop_succ_cons]
          refine callK_q annulusref8_Square.call (i2) rfl rfl ?_
          simp -implicitDefEqProofs only [go_sem, simprocAttr, -Int.reducePow, DD, q5, gt_iff_lt, ge_iff_le, List.take_succ_cons, List.drop_succ_cons]
          refine callK_q annulusref8_EqualRect.call (i3) rfl rfl ?_
          simp -implicitDefEqProofs only [go_sem, simprocAttr, -Int.reducePow, DD, q5, gt_iff_lt, ge_iff_le, List.take_succ_cons, List.drop_succ_cons]
          refine callK_q annulusref8_Holds.call (h1) rfl rfl ?_
          simp -implicitDefEqProofs only [go_sem, simprocAttr, -Int.reducePow, DD, q5, gt_iff_lt, ge_iff_le, List.take_succ_cons, List.drop_succ_cons]
          refine callK_q annulusref8_Holds.call (h2) rfl rfl ?_
          simp -implicitDefEqProofs only [go_sem, simprocAttr, -Int.reducePow, DD, q5, gt_iff_lt, ge_iff_le, List.take_succ_cons, List.drop_succ_cons]
    · rw [decide_eq_false q2] at f2
      simp -implicitDefEqProofs only [go_sem, simprocAttr, -Int.reducePow, Tryz.f5, DD, List.take_succ_cons, List.drop_succ_cons]
      refine callK_q annuluslaw10_known.call (k0) rfl rfl ?_
      simp -implicitDefEqProofs only [go_sem, simprocAttr, -Int.reducePow, DD, List.take_succ_cons, List.drop_succ_cons]
      refine callK_q annuluslaw10_fewRect.call (f1) rfl rfl ?_
      simp -implicitDefEqProofs only [go_sem, simprocAttr, -Int.reducePow, DD, List.take_succ_cons, List.drop_succ_cons]
      refine callK_q annuluslaw10_fewDisc.call (f2) rfl rfl ?_
      simp -implicitDefEqProofs only [go_sem, simprocAttr, -Int.reducePow, DD, List.take_succ_cons, List.drop_succ_cons]
  · rw [decide_eq_false q1] at f1
    simp -implicitDefEqProofs only [go_sem, simprocAttr, -Int.reducePow, Tryz.f5, DD, List.take_succ_cons, List.drop_succ_cons]
    refine callK_q annuluslaw10_known.call (k0) rfl rfl ?_
    simp -implicitDefEqProofs only [go_sem, simprocAttr, -Int.reducePow, DD, List.take_succ_cons, List.drop_succ_cons]
    refine callK_q annuluslaw10_fewRect.call (f1) rfl rfl ?_
    simp -implicitDefEqProofs only [go_sem, simprocAttr, -Int.reducePow, DD, List.take_succ_cons, List.drop_succ_cons]
end Go.Ab
