/- Contracts of this seat's functions (of each call: what it answers), walked over the abstract machine, and the laws of numbers that they want. Conditions: those that each theorem states. -/
import Derived.Test.YtcnhnabmkfagbaaGreatDoorCC
set_option linter.unusedVariables false
set_option maxRecDepth 20000
set_option linter.unusedSimpArgs false
set_option linter.unusedSectionVars false
namespace Go.Ab
open Go.Proofs
open Cx (zero one)
attribute [-go_sem] appF newsF
variable {a b : AV} {z w c : Cx} {B C n m d P M D : Nat} {cs ds : List AV} {f g : Po} {r x : Dyadic}
/-! the law of more steps -/
theorem okB_m {D l : Nat} (hD : D ≤ 5) (hl : l ≤ 3) {b : Nat} (hb : b ≤ 1499) : okB 12045 D l b := by
  match l, hl with
  | 0, _ => show b ≤ 12045; omega
  | 1, _ => exact ⟨by omega, (by omega : 2 * b + D + 2 ≤ 12045)⟩
  | 2, _ => exact ⟨by omega, by omega, (by omega : 2 * (2 * b + D + 2) + D + 2 ≤ 12045)⟩
  | 3, _ => exact ⟨by omega, by omega, by omega, (by omega : 2 * (2 * (2 * b + D + 2) + D + 2) + D + 2 ≤ 12045)⟩
theorem more_both (h : RP cs n f 296) (hcs : ∀ c ∈ cs, IsD c) (t : RT a c r 296 296) (hn : n ≤ 5) (x y : Nat) (hx : x ≤ 3) (hy : y ≤ 3) :
    ∃ o o' : Option Nat, Sat CT false 14 [.sl n cs, a, I64 (x : Nat), I64 60] (.tup [I64 (oI o), Bo o.isSome]) ∧ Sat CT false 14 [.sl n cs, a, I64 (y : Nat), I64 60] (.tup [I64 (oI o'), Bo o'.isSome]) ∧ (x ≤ y → o = none ∨ o' = o) := by
  by_cases h0 : dg n f = 0 ∨ (dnum r).sign ≤ 0
  · exact ⟨none, none, cin_no h hcs (by decide) t (by decide) _ 60 h0, cin_no h hcs (by decide) t (by decide) _ 60 h0, fun _ => .inl rfl⟩
  · have h1 : dg n f ≠ 0 := fun e => h0 (.inl e)
    have h2 : ¬ (dnum r).sign ≤ 0 := fun e => h0 (.inr e)
    have u1 := uni_pb' h.pb t.cb (rp_db t.db) n
    have m1 : (n - 1) * (296 + 2) ≤ 4 * 298 := Nat.mul_le_mul (by omega) (by decide)
    have c1 := cin_s h hcs (by decide) t (by decide) (by omega) (x : Nat) 60 (by decide) h1 h2 (L := x) (by omega) u1 (okB_m (Nat.le_trans (dg_le _ _) hn) hx (by omega))
    have c2 := cin_s h hcs (by decide) t (by decide) (by omega) (y : Nat) 60 (by decide) h1 h2 (L := y) (by omega) u1 (okB_m (Nat.le_trans (dg_le _ _) hn) hy (by omega))
    refine ⟨_, _, c1, c2, fun hxy => ?_⟩
    cases e : inO x (uni n f c (rp r)) (dg n (uni n f c (rp r))) (heldP 60) with
    | none => exact .inl rfl
    | some k => exact .inr (inO_more hxy e)
set_option maxHeartbeats 4000000 in
theorem countMore_sat (F : Nat → Raw) (hF : ∀ i, (F i).ok) (hn : n ≤ 9223372036854775807) (T : RawT) (hT : T.ok ∧ (-9223372036854775808 ≤ T.q ∧ T.q ≤ 9223372036854775807)) (u : Nat) (hu : u < 256) (v : Nat) (hv : v < 256) :
    Sat CT false 7 [.sl n (qcl n F), .agg T.cells, .v (.int .u8 (u : Nat)), .v (.int .u8 (v : Nat))] (Bo true) := by
  refine sat_of annuluslaw15_CountMore.ok (by simp) ?_
  have DD := annuluslaw15_CountMore.dr
  simp only [drP, drPx, drPt, drR, drS, drT, bodyOf, Tryz.f7, Nat.reduceEqDiff, reduceIte, true_and, and_true] at DD
  have k0 := known15_s
  have f1 := few15_s F hn
  have f2 := point15_s T.c
  have f3 := small15_s T.o T.p T.q
  obtain ⟨⟨tn, tl, te, tm, tk, tf⟩, to, tp, tq⟩ := T
  simp only [RawT.cells, Raw.cells] at *
  have hq := pld_q n F
  by_cases q1 : (∀ i, i < n → (F i).sm) ∧ n ≤ 14
  · rw [decide_eq_true q1] at f1
    by_cases q2 : (n : Int) ≤ 5
    · have c2 : ¬ (5 : Int) < (n : Int) := by omega
      by_cases q3 : Raw.sm ⟨tn, tl, te, tm, tk, tf⟩
      · rw [decide_eq_true q3] at f2
        by_cases q4 : tp.length ≤ 3 ∧ -200 ≤ tq ∧ tq ≤ 200
        · rw [decide_eq_true q4] at f3
          have rp' := RP_q (fun i _ => hF i) q1.1 (by omega)
          have tt := RawT.rts hT.1 ⟨q3, q4⟩
          simp only [RawT.cells, Raw.cells] at tt
          have hpt := pld_RT tt
          obtain ⟨x, hx⟩ : ∃ x : Nat, x = min u v % 4 := ⟨_, rfl⟩
          obtain ⟨y, hy⟩ : ∃ y : Nat, y = max u v % 4 := ⟨_, rfl⟩
          have w1 : ((min (u : Int) (v : Int))).tmod 4 = (x : Nat) := by
            have e : min (u : Int) (v : Int) = ((min u v : Nat) : Int) := by omega
            rw [e, hx]; exact tmod_nat _ 4
          have w2 : ((max (u : Int) (v : Int))).tmod 4 = (y : Nat) := by
            have e : max (u : Int) (v : Int) = ((max u v : Nat) : Int) := by omega
            rw [e, hy]; exact tmod_nat _ 4
          have w3 : IntKind.i64.wrap (x : Nat) = (x : Nat) := wrap_id (by omega)
          have w4 : IntKind.i64.wrap (y : Nat) = (y : Nat) := wrap_id (by omega)
          obtain ⟨o, o', i1, i2, i3⟩ := more_both rp' (isD_qcl n F) tt (by omega) x y (by omega) (by omega)
          clear rp' tt hT hF q1 q3 q4 hx hy hu hv
          by_cases c3 : (y : Int) < (x : Int)
          · skip
            simp -implicitDefEqProofs only [go_sem, simprocAttr, -Int.reducePow, Tryz.f7, DD, c2, c3, w1, w2, w3, w4, gt_iff_lt, Option.isSome, List.take_succ_cons, List.drop_succ_cons]
            refine callK_q annuluslaw15_known.call (k0) rfl rfl ?_
            simp -implicitDefEqProofs only [go_sem, simprocAttr, -Int.reducePow, DD, c2, c3, w1, w2, w3, w4, gt_iff_lt, Option.isSome, List.take_succ_cons, List.drop_succ_cons]
            refine callK_pl annuluslaw15_few.call (f1) (pl1 hq) ?_
            simp -implicitDefEqProofs only [go_sem, simprocAttr, -Int.reducePow, DD, c2, c3, w1, w2, w3, w4, gt_iff_lt, Option.isSome, List.take_succ_cons, List.drop_succ_cons]
            refine callK_q annuluslaw15_point.call (f2) rfl rfl ?_
            simp -implicitDefEqProofs only [go_sem, simprocAttr, -Int.reducePow, DD, c2, c3, w1, w2, w3, w4, gt_iff_lt, Option.isSome, List.take_succ_cons, List.drop_succ_cons]
            refine callK_q annuluslaw15_small.call (f3) rfl rfl ?_
            simp -implicitDefEqProofs only [go_sem, simprocAttr, -Int.reducePow, DD, c2, c3, w1, w2, w3, w4, gt_iff_lt, Option.isSome, List.take_succ_cons, List.drop_succ_cons]
            refine callK_pl count_In.call (i1) (pl4 hq hpt pld_int pld_int) ?_
            simp -implicitDefEqProofs only [go_sem, simprocAttr, -Int.reducePow, DD, c2, c3, w1, w2, w3, w4, gt_iff_lt, Option.isSome, List.take_succ_cons, List.drop_succ_cons]
            refine callK_pl count_In.call (i2) (pl4 hq hpt pld_int pld_int) ?_
            simp -implicitDefEqProofs only [go_sem, simprocAttr, -Int.reducePow, DD, c2, c3, w1, w2, w3, w4, gt_iff_lt, Option.isSome, List.take_succ_cons, List.drop_succ_cons]
          · rcases i3 (by omega) with rfl | rfl
            · skip
              simp -implicitDefEqProofs only [go_sem, simprocAttr, -Int.reducePow, Tryz.f7, DD, c2, c3, w1, w2, w3, w4, gt_iff_lt, Option.isSome, List.take_succ_cons, List.drop_succ_cons]
              refine callK_q annuluslaw15_known.call (k0) rfl rfl ?_
              simp -implicitDefEqProofs only [go_sem, simprocAttr, -Int.reducePow, DD, c2, c3, w1, w2, w3, w4, gt_iff_lt, Option.isSome, List.take_succ_cons, List.drop_succ_cons]
              refine callK_pl annuluslaw15_few.call (f1) (pl1 hq) ?_
              simp -implicitDefEqProofs only [go_sem, simprocAttr, -Int.reducePow, DD, c2, c3, w1, w2, w3, w4, gt_iff_lt, Option.isSome, List.take_succ_cons, List.drop_succ_cons]
              refine callK_q annuluslaw15_point.call (f2) rfl rfl ?_
              simp -implicitDefEqProofs only [go_sem, simprocAttr, -Int.reducePow, DD, c2, c3, w1, w2, w3, w4, gt_iff_lt, Option.isSome, List.take_succ_cons, List.drop_succ_cons]
              refine callK_q annuluslaw15_small.call (f3) rfl rfl ?_
              simp -implicitDefEqProofs only [go_sem, simprocAttr, -Int.reducePow, DD, c2, c3, w1, w2, w3, w4, gt_iff_lt, Option.isSome, List.take_succ_cons, List.drop_succ_cons]
              refine callK_pl count_In.call (i1) (pl4 hq hpt pld_int pld_int) ?_
              simp -implicitDefEqProofs only [go_sem, simprocAttr, -Int.reducePow, DD, c2, c3, w1, w2, w3, w4, gt_iff_lt, Option.isSome, List.take_succ_cons, List.drop_succ_cons]
              refine callK_pl count_In.call (i2) (pl4 hq hpt pld_int pld_int) ?_
              simp -implicitDefEqProofs only [go_sem, simprocAttr, -Int.reducePow, DD, c2, c3, w1, w2, w3, w4, gt_iff_lt, Option.isSome, List.take_succ_cons, List.drop_succ_cons]
            · cases o' with
              | none =>
                simp -implicitDefEqProofs only [go_sem, simprocAttr, -Int.reducePow, Tryz.f7, DD, c2, c3, w1, w2, w3, w4, gt_iff_lt, Option.isSome, List.take_succ_cons, List.drop_succ_cons]
                refine callK_q annuluslaw15_known.call (k0) rfl rfl ?_
                simp -implicitDefEqProofs only [go_sem, simprocAttr, -Int.reducePow, DD, c2, c3, w1, w2, w3, w4, gt_iff_lt, Option.isSome, List.take_succ_cons, List.drop_succ_cons]
                refine callK_pl annuluslaw15_few.call (f1) (pl1 hq) ?_
                simp -implicitDefEqProofs only [go_sem, simprocAttr, -Int.reducePow, DD, c2, c3, w1, w2, w3, w4, gt_iff_lt, Option.isSome, List.take_succ_cons, List.drop_succ_cons]
                refine callK_q annuluslaw15_point.call (f2) rfl rfl ?_
                simp -implicitDefEqProofs only [go_sem, simprocAttr, -Int.reducePow, DD, c2, c3, w1, w2, w3, w4, gt_iff_lt, Option.isSome, List.take_succ_cons, List.drop_succ_cons]
                refine callK_q annuluslaw15_small.call (f3) rfl rfl ?_
                simp -implicitDefEqProofs only [go_sem, simprocAttr, -Int.reducePow, DD, c2, c3, w1, w2, w3, w4, gt_iff_lt, Option.isSome, List.take_succ_cons, List.drop_succ_cons]
                refine callK_pl count_In.call (i1) (pl4 hq hpt pld_int pld_int) ?_
                simp -implicitDefEqProofs only [go_sem, simprocAttr, -Int.reducePow, DD, c2, c3, w1, w2, w3, w4, gt_iff_lt, Option.isSome, List.take_succ_cons, List.drop_succ_cons]
                refine callK_pl count_In.call (i2) (pl4 hq hpt pld_int pld_int) ?_
                simp -implicitDefEqProofs only [go_sem, simprocAttr, -Int.reducePow, DD, c2, c3, w1, w2, w3, w4, gt_iff_lt, Option.isSome, List.take_succ_cons, List.drop_succ_cons]
              | some j =>
                simp -implicitDefEqProofs only [go_sem, simprocAttr, -Int.reducePow, Tryz.f7, DD, c2, c3, w1, w2, w3, w4, gt_iff_lt, Option.isSome, List.take_succ_cons, List.drop_succ_cons]
                refine callK_q annuluslaw15_known.call (k0) rfl rfl ?_
                simp -implicitDefEqProofs only [go_sem, simprocAttr, -Int.reducePow, DD, c2, c3, w1, w2, w3, w4, gt_iff_lt, Option.isSome, List.take_succ_cons, List.drop_succ_cons]
                refine callK_pl annuluslaw15_few.call (f1) (pl1 hq) ?_
                simp -implicitDefEqProofs only [go_sem, simprocAttr, -Int.reducePow, DD, c2, c3, w1, w2, w3, w4, gt_iff_lt, Option.isSome, List.take_succ_cons, List.drop_succ_cons]
                refine callK_q annuluslaw15_point.call (f2) rfl rfl ?_
                simp -implicitDefEqProofs only [go_sem, simprocAttr, -Int.reducePow, DD, c2, c3, w1, w2, w3, w4, gt_iff_lt, Option.isSome, List.take_succ_cons, List.drop_succ_cons]
                refine callK_q annuluslaw15_small.call (f3) rfl rfl ?_
                simp -implicitDefEqProofs only [go_sem, simprocAttr, -Int.reducePow, DD, c2, c3, w1, w2, w3, w4, gt_iff_lt, Option.isSome, List.take_succ_cons, List.drop_succ_cons]
                refine callK_pl count_In.call (i1) (pl4 hq hpt pld_int pld_int) ?_
                simp -implicitDefEqProofs only [go_sem, simprocAttr, -Int.reducePow, DD, c2, c3, w1, w2, w3, w4, gt_iff_lt, Option.isSome, List.take_succ_cons, List.drop_succ_cons]
                refine callK_pl count_In.call (i2) (pl4 hq hpt pld_int pld_int) ?_
                simp -implicitDefEqProofs only [go_sem, simprocAttr, -Int.reducePow, DD, c2, c3, w1, w2, w3, w4, gt_iff_lt, Option.isSome, List.take_succ_cons, List.drop_succ_cons]
        · rw [decide_eq_false q4] at f3
          simp -implicitDefEqProofs only [go_sem, simprocAttr, -Int.reducePow, Tryz.f7, DD, c2, gt_iff_lt, List.take_succ_cons, List.drop_succ_cons]
          refine callK_q annuluslaw15_known.call (k0) rfl rfl ?_
          simp -implicitDefEqProofs only [go_sem, simprocAttr, -Int.reducePow, DD, c2, gt_iff_lt, List.take_succ_cons, List.drop_succ_cons]
          refine callK_pl annuluslaw15_few.call (f1) (pl1 hq) ?_
          simp -implicitDefEqProofs only [go_sem, simprocAttr, -Int.reducePow, DD, c2, gt_iff_lt, List.take_succ_cons, List.drop_succ_cons]
          refine callK_q annuluslaw15_point.call (f2) rfl rfl ?_
          simp -implicitDefEqProofs only [go_sem, simprocAttr, -Int.reducePow, DD, c2, gt_iff_lt, List.take_succ_cons, List.drop_succ_cons]
          refine callK_q annuluslaw15_small.call (f3) rfl rfl ?_
          simp -implicitDefEqProofs only [go_sem, simprocAttr, -Int.reducePow, DD, c2, gt_iff_lt, List.take_succ_cons, List.drop_succ_cons]
      · rw [decide_eq_false q3] at f2
        simp -implicitDefEqProofs only [go_sem, simprocAttr, -Int.reducePow, Tryz.f7, DD, c2, gt_iff_lt, List.take_succ_cons, List.drop_succ_cons]
        refine callK_q annuluslaw15_known.call (k0) rfl rfl ?_
        simp -implicitDefEqProofs only [go_sem, simprocAttr, -Int.reducePow, DD, c2, gt_iff_lt, List.take_succ_cons, List.drop_succ_cons]
        refine callK_pl annuluslaw15_few.call (f1) (pl1 hq) ?_
        simp -implicitDefEqProofs only [go_sem, simprocAttr, -Int.reducePow, DD, c2, gt_iff_lt, List.take_succ_cons, List.drop_succ_cons]
        refine callK_q annuluslaw15_point.call (f2) rfl rfl ?_
        simp -implicitDefEqProofs only [go_sem, simprocAttr, -Int.reducePow, DD, c2, gt_iff_lt, List.take_succ_cons, List.drop_succ_cons]
    · have c2 : (5 : Int) < (n : Int) := by omega
      simp -implicitDefEqProofs only [go_sem, simprocAttr, -Int.reducePow, Tryz.f7, DD, c2, gt_iff_lt]
      refine callK_q annuluslaw15_known.call (k0) rfl rfl ?_
      simp -implicitDefEqProofs only [go_sem, simprocAttr, -Int.reducePow, DD, c2, gt_iff_lt]
      refine callK_pl annuluslaw15_few.call (f1) (pl1 hq) ?_
      simp -implicitDefEqProofs only [go_sem, simprocAttr, -Int.reducePow, DD, c2, gt_iff_lt]
  · rw [decide_eq_false q1] at f1
    simp -implicitDefEqProofs only [go_sem, simprocAttr, -Int.reducePow, Tryz.f7, DD]
    refine callK_q annuluslaw15_known.call (k0) rfl rfl ?_
    simp -implicitDefEqProofs only [go_sem, simprocAttr, -Int.reducePow, DD]
    refine callK_pl annuluslaw15_few.call (f1) (pl1 hq) ?_
    simp -implicitDefEqProofs only [go_sem, simprocAttr, -Int.reducePow, DD]
end Go.Ab
