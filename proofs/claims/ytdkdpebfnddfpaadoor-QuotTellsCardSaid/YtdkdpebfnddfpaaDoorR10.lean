/- Contracts of this seat's functions (of each call: what it answers), walked over the abstract machine, and the laws of numbers that they want. Conditions: those that each theorem states. -/
import Derived.Test.YtdkdpebfnddfpaaDoorRC
/-! QuotTells: quotients and roots are those of the document. -/
set_option linter.unusedVariables false
set_option maxRecDepth 20000
set_option linter.unusedSimpArgs false
set_option linter.unusedSectionVars false
namespace Go.Ab
open Go.Proofs

set_option maxRecDepth 100000 in
set_option maxHeartbeats 4000000 in
theorem tells_main {n n' : Bool} {l l' : List Nat} {e e' p m b c1 c2 : Int} {x y : Dyadic} {qv rv : AV} (w1 : Sat CT false 11 [DA n l e] (Bo true)) (w2 : Sat CT false 11 [DA n' l' e'] (Bo true))
    (pz : (¬ 400 < p ∧ True) ∨ (400 < p ∧ ¬ p ≤ 4000)) (m1 : Sat CT false 12 [IA n l, I64 e] (DI x)) (m2 : Sat CT false 12 [IA n' l', I64 e'] (DI y)) (hb2 : min p 400 = b)
    (hq : (qv = QZ ∧ Sat CT false 17 [DA false [] 0, DA false [] 0] (Bo true)) ∨ ∃ d, qv = DI d ∧ Sat CT false 17 [DI d, DI d] (Bo true))
    (hr : (rv = QZ ∧ Sat CT false 17 [DA false [] 0, DA false [] 0] (Bo true)) ∨ ∃ d, rv = DI d ∧ Sat CT false 17 [DI d, DI d] (Bo true))
    (D1 : Sat CT false 13 [DA n l e, DA n' l' e', I64 b, I64 m] (.tup [qv, I64 c1])) (D2 : Sat CT false 14 [DI x, DI y, I64 b, I64 m] (.tup [qv, I64 c1]))
    (R1 : Sat CT false 15 [DA n l e, I64 b, I64 m] (.tup [rv, I64 c2])) (R2 : Sat CT false 16 [DI x, I64 b, I64 m] (.tup [rv, I64 c2])) : Sat CT false 3 [DA n l e, DA n' l' e', I64 p, I64 m] (Bo true) := by
  refine sat_of annuluslaw6_QuotTells.ok (by simp) ?_
  have DD := annuluslaw6_QuotTells.dr
  simp only [drP, drPx, drPt, drR, drS, drT, bodyOf, Tryd.f3, Nat.reduceEqDiff, reduceIte, true_and, and_true] at DD
  have kn := known6_s
  rcases hq with ⟨rfl, E1⟩ | ⟨d, rfl, E1⟩ <;> rcases hr with ⟨rfl, E2⟩ | ⟨d', rfl, E2⟩ <;> rcases pz with ⟨pz, pz2⟩ | ⟨pz, pz2⟩ <;>
    (skip
     simp -implicitDefEqProofs only [go_sem, Nat.reduceAdd, Nat.reduceEqDiff, Nat.reduceLT, reduceIte, reduceCtorEq, Int.reduceLE, Int.reduceLT, Int.reduceEq, Int.reduceAdd, Int.reduceMul, Int.reduceSub, Nat.reduceMul, Nat.reduceSub, Nat.reducePow, Nat.reduceLeDiff, Int.reduceToNat, Tryd.f3, DD, pz, pz2, QZ, hb2, gt_iff_lt]
     refine callK_q annuluslaw6_known.call (kn) rfl rfl ?_
     simp -implicitDefEqProofs only [go_sem, Nat.reduceAdd, Nat.reduceEqDiff, Nat.reduceLT, reduceIte, reduceCtorEq, Int.reduceLE, Int.reduceLT, Int.reduceEq, Int.reduceAdd, Int.reduceMul, Int.reduceSub, Nat.reduceMul, Nat.reduceSub, Nat.reducePow, Nat.reduceLeDiff, Int.reduceToNat, DD, pz, pz2, QZ, hb2, gt_iff_lt]
     refine callK_q annuluslaw6_few.call (w1) rfl rfl ?_
     simp -implicitDefEqProofs only [go_sem, Nat.reduceAdd, Nat.reduceEqDiff, Nat.reduceLT, reduceIte, reduceCtorEq, Int.reduceLE, Int.reduceLT, Int.reduceEq, Int.reduceAdd, Int.reduceMul, Int.reduceSub, Nat.reduceMul, Nat.reduceSub, Nat.reducePow, Nat.reduceLeDiff, Int.reduceToNat, DD, pz, pz2, QZ, hb2, gt_iff_lt]
     refine callK_q annuluslaw6_few.call (w2) rfl rfl ?_
     simp -implicitDefEqProofs only [go_sem, Nat.reduceAdd, Nat.reduceEqDiff, Nat.reduceLT, reduceIte, reduceCtorEq, Int.reduceLE, Int.reduceLT, Int.reduceEq, Int.reduceAdd, Int.reduceMul, Int.reduceSub, Nat.reduceMul, Nat.reduceSub, Nat.reducePow, Nat.reduceLeDiff, Int.reduceToNat, DD, pz, pz2, QZ, hb2, gt_iff_lt]
     refine callK_q annulusref4_Make.call (m1) rfl rfl ?_
     simp -implicitDefEqProofs only [go_sem, Nat.reduceAdd, Nat.reduceEqDiff, Nat.reduceLT, reduceIte, reduceCtorEq, Int.reduceLE, Int.reduceLT, Int.reduceEq, Int.reduceAdd, Int.reduceMul, Int.reduceSub, Nat.reduceMul, Nat.reduceSub, Nat.reducePow, Nat.reduceLeDiff, Int.reduceToNat, DD, pz, pz2, QZ, hb2, gt_iff_lt]
     refine callK_q annulusref4_Make.call (m2) rfl rfl ?_
     simp -implicitDefEqProofs only [go_sem, Nat.reduceAdd, Nat.reduceEqDiff, Nat.reduceLT, reduceIte, reduceCtorEq, Int.reduceLE, Int.reduceLT, Int.reduceEq, Int.reduceAdd, Int.reduceMul, Int.reduceSub, Nat.reduceMul, Nat.reduceSub, Nat.reducePow, Nat.reduceLeDiff, Int.reduceToNat, DD, pz, pz2, QZ, hb2, gt_iff_lt]
     refine callK_q quot_Div.call (D1) rfl rfl ?_
     simp -implicitDefEqProofs only [go_sem, Nat.reduceAdd, Nat.reduceEqDiff, Nat.reduceLT, reduceIte, reduceCtorEq, Int.reduceLE, Int.reduceLT, Int.reduceEq, Int.reduceAdd, Int.reduceMul, Int.reduceSub, Nat.reduceMul, Nat.reduceSub, Nat.reducePow, Nat.reduceLeDiff, Int.reduceToNat, DD, pz, pz2, QZ, hb2, gt_iff_lt]
     refine callK_q annulusref4_Div.call (D2) rfl rfl ?_
     simp -implicitDefEqProofs only [go_sem, Nat.reduceAdd, Nat.reduceEqDiff, Nat.reduceLT, reduceIte, reduceCtorEq, Int.reduceLE, Int.reduceLT, Int.reduceEq, Int.reduceAdd, Int.reduceMul, Int.reduceSub, Nat.reduceMul, Nat.reduceSub, Nat.reducePow, Nat.reduceLeDiff, Int.reduceToNat, DD, pz, pz2, QZ, hb2, gt_iff_lt]
     refine callK_q quot_Root.call (R1) rfl rfl ?_
     simp -implicitDefEqProofs only [go_sem, Nat.reduceAdd, Nat.reduceEqDiff, Nat.reduceLT, reduceIte, reduceCtorEq, Int.reduceLE, Int.reduceLT, Int.reduceEq, Int.reduceAdd, Int.reduceMul, Int.reduceSub, Nat.reduceMul, Nat.reduceSub, Nat.reducePow, Nat.reduceLeDiff, Int.reduceToNat, DD, pz, pz2, QZ, hb2, gt_iff_lt]
     refine callK_q annulusref4_Root.call (R2) rfl rfl ?_
     simp -implicitDefEqProofs only [go_sem, Nat.reduceAdd, Nat.reduceEqDiff, Nat.reduceLT, reduceIte, reduceCtorEq, Int.reduceLE, Int.reduceLT, Int.reduceEq, Int.reduceAdd, Int.reduceMul, Int.reduceSub, Nat.reduceMul, Nat.reduceSub, Nat.reducePow, Nat.reduceLeDiff, Int.reduceToNat, DD, pz, pz2, QZ, hb2, gt_iff_lt]
     refine callK_q annulusref4_Equal.call (E1) rfl rfl ?_
     simp -implicitDefEqProofs only [go_sem, Nat.reduceAdd, Nat.reduceEqDiff, Nat.reduceLT, reduceIte, reduceCtorEq, Int.reduceLE, Int.reduceLT, Int.reduceEq, Int.reduceAdd, Int.reduceMul, Int.reduceSub, Nat.reduceMul, Nat.reduceSub, Nat.reducePow, Nat.reduceLeDiff, Int.reduceToNat, DD, pz, pz2, QZ, hb2, gt_iff_lt]
     refine callK_q annulusref4_Equal.call (E2) rfl rfl ?_
     simp -implicitDefEqProofs only [go_sem, Nat.reduceAdd, Nat.reduceEqDiff, Nat.reduceLT, reduceIte, reduceCtorEq, Int.reduceLE, Int.reduceLT, Int.reduceEq, Int.reduceAdd, Int.reduceMul, Int.reduceSub, Nat.reduceMul, Nat.reduceSub, Nat.reducePow, Nat.reduceLeDiff, Int.reduceToNat, DD, pz, pz2, QZ, hb2, gt_iff_lt])
set_option maxRecDepth 100000 in
set_option maxHeartbeats 4000000 in
theorem tells_out {n n' : Bool} {l l' : List Nat} {e e' p m : Int} {f1 f2 : Bool} (w1 : Sat CT false 11 [DA n l e] (Bo f1)) (w2 : Sat CT false 11 [DA n' l' e'] (Bo f2))
    (h : f1 = false ∨ f1 = true ∧ f2 = false ∨ f1 = true ∧ f2 = true ∧ 400 < p ∧ p ≤ 4000) : Sat CT false 3 [DA n l e, DA n' l' e', I64 p, I64 m] (Bo true) := by
  refine sat_of annuluslaw6_QuotTells.ok (by simp) ?_
  have DD := annuluslaw6_QuotTells.dr
  simp only [drP, drPx, drPt, drR, drS, drT, bodyOf, Tryd.f3, Nat.reduceEqDiff, reduceIte, true_and, and_true] at DD
  have kn := known6_s
  rcases h with rfl | ⟨rfl, rfl⟩ | ⟨rfl, rfl, p1, p2⟩
  · skip
    simp -implicitDefEqProofs only [go_sem, Nat.reduceAdd, Nat.reduceEqDiff, Nat.reduceLT, reduceIte, reduceCtorEq, Int.reduceLE, Int.reduceLT, Int.reduceEq, Int.reduceAdd, Int.reduceMul, Int.reduceSub, Nat.reduceMul, Nat.reduceSub, Nat.reducePow, Nat.reduceLeDiff, Int.reduceToNat, Tryd.f3, DD, gt_iff_lt]
    refine callK_q annuluslaw6_known.call (kn) rfl rfl ?_
    simp -implicitDefEqProofs only [go_sem, Nat.reduceAdd, Nat.reduceEqDiff, Nat.reduceLT, reduceIte, reduceCtorEq, Int.reduceLE, Int.reduceLT, Int.reduceEq, Int.reduceAdd, Int.reduceMul, Int.reduceSub, Nat.reduceMul, Nat.reduceSub, Nat.reducePow, Nat.reduceLeDiff, Int.reduceToNat, DD, gt_iff_lt]
    refine callK_q annuluslaw6_few.call (w1) rfl rfl ?_
    simp -implicitDefEqProofs only [go_sem, Nat.reduceAdd, Nat.reduceEqDiff, Nat.reduceLT, reduceIte, reduceCtorEq, Int.reduceLE, Int.reduceLT, Int.reduceEq, Int.reduceAdd, Int.reduceMul, Int.reduceSub, Nat.reduceMul, Nat.reduceSub, Nat.reducePow, Nat.reduceLeDiff, Int.reduceToNat, DD, gt_iff_lt]
  · skip
    simp -implicitDefEqProofs only [go_sem, Nat.reduceAdd, Nat.reduceEqDiff, Nat.reduceLT, reduceIte, reduceCtorEq, Int.reduceLE, Int.reduceLT, Int.reduceEq, Int.reduceAdd, Int.reduceMul, Int.reduceSub, Nat.reduceMul, Nat.reduceSub, Nat.reducePow, Nat.reduceLeDiff, Int.reduceToNat, Tryd.f3, DD, gt_iff_lt]
    refine callK_q annuluslaw6_known.call (kn) rfl rfl ?_
    simp -implicitDefEqProofs only [go_sem, Nat.reduceAdd, Nat.reduceEqDiff, Nat.reduceLT, reduceIte, reduceCtorEq, Int.reduceLE, Int.reduceLT, Int.reduceEq, Int.reduceAdd, Int.reduceMul, Int.reduceSub, Nat.reduceMul, Nat.reduceSub, Nat.reducePow, Nat.reduceLeDiff, Int.reduceToNat, DD, gt_iff_lt]
    refine callK_q annuluslaw6_few.call (w1) rfl rfl ?_
    simp -implicitDefEqProofs only [go_sem, Nat.reduceAdd, Nat.reduceEqDiff, Nat.reduceLT, reduceIte, reduceCtorEq, Int.reduceLE, Int.reduceLT, Int.reduceEq, Int.reduceAdd, Int.reduceMul, Int.reduceSub, Nat.reduceMul, Nat.reduceSub, Nat.reducePow, Nat.reduceLeDiff, Int.reduceToNat, DD, gt_iff_lt]
    refine callK_q annuluslaw6_few.call (w2) rfl rfl ?_
    simp -implicitDefEqProofs only [go_sem, Nat.reduceAdd, Nat.reduceEqDiff, Nat.reduceLT, reduceIte, reduceCtorEq, Int.reduceLE, Int.reduceLT, Int.reduceEq, Int.reduceAdd, Int.reduceMul, Int.reduceSub, Nat.reduceMul, Nat.reduceSub, Nat.reducePow, Nat.reduceLeDiff, Int.reduceToNat, DD, gt_iff_lt]
  · skip
    simp -implicitDefEqProofs only [go_sem, Nat.reduceAdd, Nat.reduceEqDiff, Nat.reduceLT, reduceIte, reduceCtorEq, Int.reduceLE, Int.reduceLT, Int.reduceEq, Int.reduceAdd, Int.reduceMul, Int.reduceSub, Nat.reduceMul, Nat.reduceSub, Nat.reducePow, Nat.reduceLeDiff, Int.reduceToNat, Tryd.f3, DD, p1, p2, gt_iff_lt]
    refine callK_q annuluslaw6_known.call (kn) rfl rfl ?_
    simp -implicitDefEqProofs only [go_sem, Nat.reduceAdd, Nat.reduceEqDiff, Nat.reduceLT, reduceIte, reduceCtorEq, Int.reduceLE, Int.reduceLT, Int.reduceEq, Int.reduceAdd, Int.reduceMul, Int.reduceSub, Nat.reduceMul, Nat.reduceSub, Nat.reducePow, Nat.reduceLeDiff, Int.reduceToNat, DD, p1, p2, gt_iff_lt]
    refine callK_q annuluslaw6_few.call (w1) rfl rfl ?_
    simp -implicitDefEqProofs only [go_sem, Nat.reduceAdd, Nat.reduceEqDiff, Nat.reduceLT, reduceIte, reduceCtorEq, Int.reduceLE, Int.reduceLT, Int.reduceEq, Int.reduceAdd, Int.reduceMul, Int.reduceSub, Nat.reduceMul, Nat.reduceSub, Nat.reducePow, Nat.reduceLeDiff, Int.reduceToNat, DD, p1, p2, gt_iff_lt]
    refine callK_q annuluslaw6_few.call (w2) rfl rfl ?_
    simp -implicitDefEqProofs only [go_sem, Nat.reduceAdd, Nat.reduceEqDiff, Nat.reduceLT, reduceIte, reduceCtorEq, Int.reduceLE, Int.reduceLT, Int.reduceEq, Int.reduceAdd, Int.reduceMul, Int.reduceSub, Nat.reduceMul, Nat.reduceSub, Nat.reducePow, Nat.reduceLeDiff, Int.reduceToNat, DD, p1, p2, gt_iff_lt]
theorem quotTells_sat (n : Bool) (l : List Nat) (e : Int) (hl : Lm l) (n' : Bool) (l' : List Nat) (e' : Int) (hl' : Lm l') (p m : Int) : Sat CT false 3 [DA n l e, DA n' l' e', I64 p, I64 m] (Bo true) := by
  have kn := known6_s
  have w1 := few6_s n l e
  have w2 := few6_s n' l' e'
  by_cases hf : l.length ≤ 20 ∧ -2000 ≤ e ∧ e ≤ 2000
  · by_cases hf' : l'.length ≤ 20 ∧ -2000 ≤ e' ∧ e' ≤ 2000
    · rw [decide_eq_true hf] at w1
      rw [decide_eq_true hf'] at w2
      by_cases hp : 400 < p ∧ p ≤ 4000
      · exact tells_out w1 w2 (.inr (.inr ⟨rfl, rfl, hp⟩))
      · have pz : (¬ 400 < p ∧ True) ∨ (400 < p ∧ ¬ p ≤ 4000) := by
          by_cases g : 400 < p
          · exact .inr ⟨g, fun q => hp ⟨g, q⟩⟩
          · exact .inl ⟨g, trivial⟩
        obtain ⟨r1, x1, x2, x3⟩ := rd_raw (n := n) hl hf.1 hf.2.1 hf.2.2
        obtain ⟨r2, y1, y2, y3⟩ := rd_raw (n := n') hl' hf'.1 hf'.2.1 hf'.2.2
        have m1 := make_sat n l e hl (Nat.lt_of_le_of_lt hf.1 (by decide)) x3 (by omega)
        have m2 := make_sat n' l' e' hl' (Nat.lt_of_le_of_lt hf'.1 (by decide)) y3 (by omega)
        have hh := held_min p
        obtain ⟨b, hb⟩ : ∃ b, b = min p 400 := ⟨_, rfl⟩
        rw [← hb] at hh
        have hb2 := hb.symm
        have hP1 := (heldP_v b).2.2.1
        generalize dv (iv n l) e = x at *
        generalize dv (iv n' l') e' = y at *
        have dx := r1.db
        have dy := r2.db
        have E0 : Sat CT false 17 [DA false [] 0, DA false [] 0] (Bo true) := by
          have := requal4d (DB.zero 0) (DB.zero 0) (by decide) (by decide)
          rw [DI_0, decide_eq_true rfl] at this
          exact this
        have QE : ∀ d : Dyadic, DB d 8201 → Sat CT false 17 [DI d, DI d] (Bo true) := fun d q => by
          have := requal4d q q (by decide) (by decide)
          rw [decide_eq_true rfl] at this
          exact this
        by_cases hx : dnum x ≤ 0
        · have R1 := qroot_n r1 hx (by decide) b m
          have R2 := rroot4_n dx hx (by decide) b m
          by_cases hy : y = 0
          · exact tells_main w1 w2 pz m1 m2 hb2 (.inl ⟨rfl, E0⟩) (.inl ⟨rfl, E0⟩) (qdiv_y0 r1 r2 hy (by decide) (by decide) b m) (rdiv4_y0 (x := x) dy hy (by decide) b m) R1 R2
          · by_cases hx0 : x = 0
            · exact tells_main w1 w2 pz m1 m2 hb2 (.inl ⟨rfl, E0⟩) (.inl ⟨rfl, E0⟩) (qdiv_x0 r1 r2 hx0 hy (by decide) (by decide) b m) (rdiv4_x0 dx dy hy hx0 (by decide) (by decide) b m) R1 R2
            · exact tells_main w1 w2 pz m1 m2 hb2 (.inr ⟨_, rfl, QE _ (dquo_db hx0 hy x1 y1 x2 y2 hP1 hh _)⟩) (.inl ⟨rfl, E0⟩) (qdiv_ok r1 r2 hx0 hy (by decide) (by decide) b m) (rdiv4_ok dx dy hx0 hy x1 y1 x2 y2 (by decide) (by decide) b m hh) R1 R2
        · have hx := Int.not_le.1 hx
          have hx0 : x ≠ 0 := fun e => by rw [e] at hx; exact absurd hx (by decide)
          have R1 := qroot_ok r1 hx (by decide) b m
          have R2 := rroot4_ok dx hx x1 x2 (by decide) b m hh
          have E1 := QE _ (droot_db hx x1 x2 hP1 hh (decide (m = 1)))
          by_cases hy : y = 0
          · exact tells_main w1 w2 pz m1 m2 hb2 (.inl ⟨rfl, E0⟩) (.inr ⟨_, rfl, E1⟩) (qdiv_y0 r1 r2 hy (by decide) (by decide) b m) (rdiv4_y0 (x := x) dy hy (by decide) b m) R1 R2
          · exact tells_main w1 w2 pz m1 m2 hb2 (.inr ⟨_, rfl, QE _ (dquo_db hx0 hy x1 y1 x2 y2 hP1 hh _)⟩) (.inr ⟨_, rfl, E1⟩) (qdiv_ok r1 r2 hx0 hy (by decide) (by decide) b m) (rdiv4_ok dx dy hx0 hy x1 y1 x2 y2 (by decide) (by decide) b m hh) R1 R2
    · rw [decide_eq_true hf] at w1
      rw [decide_eq_false hf'] at w2
      exact tells_out w1 w2 (.inr (.inl ⟨rfl, rfl⟩))
  · rw [decide_eq_false hf] at w1
    exact tells_out w1 w2 (.inl rfl)
end Go.Ab
