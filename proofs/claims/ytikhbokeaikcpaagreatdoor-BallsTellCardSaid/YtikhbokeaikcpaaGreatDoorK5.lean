/- Contracts of this seat's functions (of each call: what it answers), walked over the abstract machine, and the laws of numbers that they want. Conditions: those that each theorem states. -/
import Derived.Test.YtikhbokeaikcpaaGreatDoorK4
import Derived.Test.YtikhbokeaikcpaaGreatDoorAX
import Derived.Test.YtikhbokeaikcpaaGreatDoorM5
set_option linter.unusedVariables false
set_option maxRecDepth 20000
set_option linter.unusedSimpArgs false
set_option linter.unusedSectionVars false
namespace Go.Ab
open Go.Proofs
open Cx (zero one)
attribute [-go_sem] appF newsF
variable {a b : AV} {x y r s t : Dyadic} {z w c d e : Cx} {B C B' C' n m P : Nat} {cs ds : List AV} {u u' : Nat → Cx} {v v' : Nat → Dyadic} {f g : Po}
/-! balls: what is known of them, what comes in -/
abbrev RawT.sm (t : RawT) : Prop := t.c.sm ∧ (t.p.length ≤ 3 ∧ -200 ≤ t.q ∧ t.q ≤ 200)
theorem RawT.rts {t : RawT} (h : t.ok) (hs : t.sm) : RT (.agg t.cells) t.c.z t.rd 296 296 := ⟨_, _, _, _, _, _, _, _, _, rfl, rd_small h.1.1 hs.1.1, rd_small h.1.2.1 hs.1.2, rd_small h.2 hs.2⟩
theorem small12_s (b : Bool) (l : List Nat) (e : Int) : Sat CT false 84 [.agg [Bo b, U32 l, I64 e]] (Bo (decide (l.length ≤ 3 ∧ -200 ≤ e ∧ e ≤ 200))) := by
  refine sat_of annuluslaw12_small.ok (by simp) ?_
  have DD := annuluslaw12_small.dr
  simp only [drP, drPx, drPt, drR, drS, drT, bodyOf, Tryz.f84, Nat.reduceEqDiff, reduceIte, true_and, and_true] at DD
  by_cases h1 : l.length ≤ 3
  · have c1 : (l.length : Int) ≤ 3 := by omega
    by_cases h2 : -200 ≤ e
    · by_cases h3 : e ≤ 200
      · rw [decide_eq_true ⟨h1, h2, h3⟩]
        simp -implicitDefEqProofs only [go_sem, simprocAttr, -Int.reducePow, Tryz.f84, DD, x_app, x_ga0, x_gas, x_gan, Int.cast_ofNat_Int, eq_self, Int.zero_lt_one, Bool.not_false, Bool.not_true, beq_self_eq_true, c1, h2, h3]
      · rw [decide_eq_false (fun h => h3 h.2.2)]
        simp -implicitDefEqProofs only [go_sem, simprocAttr, -Int.reducePow, Tryz.f84, DD, x_app, x_ga0, x_gas, x_gan, Int.cast_ofNat_Int, eq_self, Int.zero_lt_one, Bool.not_false, Bool.not_true, beq_self_eq_true, c1, h2, h3]
    · rw [decide_eq_false (fun h => h2 h.2.1)]
      simp -implicitDefEqProofs only [go_sem, simprocAttr, -Int.reducePow, Tryz.f84, DD, x_app, x_ga0, x_gas, x_gan, Int.cast_ofNat_Int, eq_self, Int.zero_lt_one, Bool.not_false, Bool.not_true, beq_self_eq_true, c1, h2]
  · have c1 : ¬ (l.length : Int) ≤ 3 := by omega
    rw [decide_eq_false (fun h => h1 h.1)]
    simp -implicitDefEqProofs only [go_sem, simprocAttr, -Int.reducePow, Tryz.f84, DD, x_app, x_ga0, x_gas, x_gan, Int.cast_ofNat_Int, eq_self, Int.zero_lt_one, Bool.not_false, Bool.not_true, beq_self_eq_true, c1]
theorem few12_s (F : Nat → Raw) (hn : n ≤ 9223372036854775807) : Sat CT false 39 [.sl n (qcl n F)] (Bo (decide ((∀ i, i < n → (F i).sm) ∧ n ≤ 14))) := by
  refine sat_of annuluslaw12_few.ok (by simp) ?_
  have DD := annuluslaw12_few.dr
  simp only [drP, drPx, drPt, drR, drS, drT, bodyOf, Tryz.f39, Nat.reduceEqDiff, reduceIte, true_and, and_true] at DD
  have hL := qcl_len n F
  simp -implicitDefEqProofs only [go_sem, simprocAttr, -Int.reducePow, Tryz.f39, DD, x_app, x_ga0, x_gas, x_gan, Int.cast_ofNat_Int, eq_self, Int.zero_lt_one, Bool.not_false, Bool.not_true, beq_self_eq_true]
  refine loop_of aW0_mono (fun q σ => ∃ sl i, σ = ⟨sl, []⟩ ∧ q = n - i ∧ i ≤ n ∧ look sl 0 = .sl n (qcl n F) ∧ look sl 3 = I64 (i : Nat) ∧ ∀ j, j < i → (F j).sm) ?_ (n := n)
    ⟨_, 0, rfl, rfl, Nat.zero_le _, by simp [x_look], by simp [x_look], fun j hj => by omega⟩
  rintro q _ ⟨sl, i, rfl, rfl, hi, k0, k3, hinv⟩
  by_cases hid : i = n
  · subst hid
    have ed : decide ((∀ j, j < i → (F j).sm) ∧ i ≤ 14) = decide ((i : Int) ≤ 14) := decide_eq_decide.2 ⟨fun h => by omega, fun h => ⟨hinv, by omega⟩⟩
    rw [ed]
    simp -implicitDefEqProofs only [go_sem, simprocAttr, -Int.reducePow, DD, x_app, x_ga0, x_gas, x_gan, Int.cast_ofNat_Int, eq_self, Int.zero_lt_one, Bool.not_false, Bool.not_true, beq_self_eq_true, k0, k3, Int.lt_irrefl]
  · have c1 : (i : Int) < (n : Int) := by omega
    have ci : IntKind.i64.wrap ((i : Int) + 1) = ((i + 1 : Nat) : Int) := by rw [wrap_i64 (by omega) (by omega)]; omega
    have c2 : (0 : Int) ≤ (i : Int) := by omega
    have c4 : i * 6 < n * 6 := by omega
    have c5 : i * 6 + 3 ≤ n * 6 := by omega
    have c6 : i * 6 + 3 + 3 ≤ n * 6 := by omega
    have hc := qcl_lo F (show i < n by omega)
    have hc' := qcl_hi F (show i < n by omega)
    have q1 := small12_s (F i).n (F i).l (F i).e
    have q2 := small12_s (F i).m (F i).k (F i).f
    by_cases h1 : (F i).l.length ≤ 3 ∧ -200 ≤ (F i).e ∧ (F i).e ≤ 200
    · rw [decide_eq_true h1] at q1
      by_cases h2 : (F i).k.length ≤ 3 ∧ -200 ≤ (F i).f ∧ (F i).f ≤ 200
      · rw [decide_eq_true h2] at q2
        simp -implicitDefEqProofs only [go_sem, simprocAttr, -Int.reducePow, DD, x_app, x_ga0, x_gas, x_gan, Int.cast_ofNat_Int, eq_self, Int.zero_lt_one, Bool.not_false, Bool.not_true, beq_self_eq_true, k0, k3, ci, c1, c2, c4, c5, c6, hc, hc', hL]
        refine callK_pl annuluslaw12_small.call (q1) (pl1 (pld_dy _ _ _)) ?_
        simp -implicitDefEqProofs only [go_sem, simprocAttr, -Int.reducePow, DD, x_app, x_ga0, x_gas, x_gan, Int.cast_ofNat_Int, eq_self, Int.zero_lt_one, Bool.not_false, Bool.not_true, beq_self_eq_true, k0, k3, ci, c1, c2, c4, c5, c6, hc, hc', hL]
        refine callK_pl annuluslaw12_small.call (q2) (pl1 (pld_dy _ _ _)) ?_
        simp -implicitDefEqProofs only [go_sem, simprocAttr, -Int.reducePow, DD, x_app, x_ga0, x_gas, x_gan, Int.cast_ofNat_Int, eq_self, Int.zero_lt_one, Bool.not_false, Bool.not_true, beq_self_eq_true, k0, k3, ci, c1, c2, c4, c5, c6, hc, hc', hL]
        exact ⟨n - (i + 1), by omega, _, i + 1, rfl, rfl, by omega, by simp [x_look, k0], by simp [x_look], fun j hj => by
          rcases Nat.lt_or_ge j i with h | h
          · exact hinv j h
          · rw [show j = i by omega]; exact ⟨h1, h2⟩⟩
      · rw [decide_eq_false h2] at q2
        rw [decide_eq_false (fun h => h2 (h.1 i (by omega)).2)]
        simp -implicitDefEqProofs only [go_sem, simprocAttr, -Int.reducePow, DD, x_app, x_ga0, x_gas, x_gan, Int.cast_ofNat_Int, eq_self, Int.zero_lt_one, Bool.not_false, Bool.not_true, beq_self_eq_true, k0, k3, ci, c1, c2, c4, c5, c6, hc, hc', hL]
        refine callK_pl annuluslaw12_small.call (q1) (pl1 (pld_dy _ _ _)) ?_
        simp -implicitDefEqProofs only [go_sem, simprocAttr, -Int.reducePow, DD, x_app, x_ga0, x_gas, x_gan, Int.cast_ofNat_Int, eq_self, Int.zero_lt_one, Bool.not_false, Bool.not_true, beq_self_eq_true, k0, k3, ci, c1, c2, c4, c5, c6, hc, hc', hL]
        refine callK_pl annuluslaw12_small.call (q2) (pl1 (pld_dy _ _ _)) ?_
        simp -implicitDefEqProofs only [go_sem, simprocAttr, -Int.reducePow, DD, x_app, x_ga0, x_gas, x_gan, Int.cast_ofNat_Int, eq_self, Int.zero_lt_one, Bool.not_false, Bool.not_true, beq_self_eq_true, k0, k3, ci, c1, c2, c4, c5, c6, hc, hc', hL]
    · rw [decide_eq_false h1] at q1
      rw [decide_eq_false (fun h => h1 (h.1 i (by omega)).1)]
      simp -implicitDefEqProofs only [go_sem, simprocAttr, -Int.reducePow, DD, x_app, x_ga0, x_gas, x_gan, Int.cast_ofNat_Int, eq_self, Int.zero_lt_one, Bool.not_false, Bool.not_true, beq_self_eq_true, k0, k3, ci, c1, c2, c4, c5, c6, hc, hc', hL]
      refine callK_pl annuluslaw12_small.call (q1) (pl1 (pld_dy _ _ _)) ?_
      simp -implicitDefEqProofs only [go_sem, simprocAttr, -Int.reducePow, DD, x_app, x_ga0, x_gas, x_gan, Int.cast_ofNat_Int, eq_self, Int.zero_lt_one, Bool.not_false, Bool.not_true, beq_self_eq_true, k0, k3, ci, c1, c2, c4, c5, c6, hc, hc', hL]
theorem point12_s (r : Raw) : Sat CT false 54 [.agg r.cells] (Bo (decide r.sm)) := by
  refine sat_of annuluslaw12_point.ok (by simp) ?_
  have DD := annuluslaw12_point.dr
  simp only [drP, drPx, drPt, drR, drS, drT, bodyOf, Tryz.f54, Nat.reduceEqDiff, reduceIte, true_and, and_true] at DD
  obtain ⟨b, l, e, c, k, g⟩ := r
  have q1 := small12_s b l e
  have q2 := small12_s c k g
  by_cases h1 : l.length ≤ 3 ∧ -200 ≤ e ∧ e ≤ 200
  · rw [decide_eq_true h1] at q1
    have ed : decide (Raw.sm ⟨b, l, e, c, k, g⟩) = decide (k.length ≤ 3 ∧ -200 ≤ g ∧ g ≤ 200) := decide_eq_decide.2 ⟨fun h => h.2, fun h => ⟨h1, h⟩⟩
    rw [ed]
    by_cases h2 : k.length ≤ 3 ∧ -200 ≤ g ∧ g ≤ 200
    · rw [decide_eq_true h2] at q2 ⊢
      simp -implicitDefEqProofs only [go_sem, simprocAttr, -Int.reducePow, Tryz.f54, DD, x_app, x_ga0, x_gas, x_gan, Int.cast_ofNat_Int, eq_self, Int.zero_lt_one, Bool.not_false, Bool.not_true, beq_self_eq_true, Raw.cells]
      refine callK_pl annuluslaw12_small.call (q1) (pl1 (pld_dy _ _ _)) ?_
      simp -implicitDefEqProofs only [go_sem, simprocAttr, -Int.reducePow, DD, x_app, x_ga0, x_gas, x_gan, Int.cast_ofNat_Int, eq_self, Int.zero_lt_one, Bool.not_false, Bool.not_true, beq_self_eq_true]
      refine callK_pl annuluslaw12_small.call (q2) (pl1 (pld_dy _ _ _)) ?_
      simp -implicitDefEqProofs only [go_sem, simprocAttr, -Int.reducePow, DD, x_app, x_ga0, x_gas, x_gan, Int.cast_ofNat_Int, eq_self, Int.zero_lt_one, Bool.not_false, Bool.not_true, beq_self_eq_true]
    · rw [decide_eq_false h2] at q2 ⊢
      simp -implicitDefEqProofs only [go_sem, simprocAttr, -Int.reducePow, Tryz.f54, DD, x_app, x_ga0, x_gas, x_gan, Int.cast_ofNat_Int, eq_self, Int.zero_lt_one, Bool.not_false, Bool.not_true, beq_self_eq_true, Raw.cells]
      refine callK_pl annuluslaw12_small.call (q1) (pl1 (pld_dy _ _ _)) ?_
      simp -implicitDefEqProofs only [go_sem, simprocAttr, -Int.reducePow, DD, x_app, x_ga0, x_gas, x_gan, Int.cast_ofNat_Int, eq_self, Int.zero_lt_one, Bool.not_false, Bool.not_true, beq_self_eq_true]
      refine callK_pl annuluslaw12_small.call (q2) (pl1 (pld_dy _ _ _)) ?_
      simp -implicitDefEqProofs only [go_sem, simprocAttr, -Int.reducePow, DD, x_app, x_ga0, x_gas, x_gan, Int.cast_ofNat_Int, eq_self, Int.zero_lt_one, Bool.not_false, Bool.not_true, beq_self_eq_true]
  · rw [decide_eq_false h1] at q1
    rw [decide_eq_false (show ¬ Raw.sm ⟨b, l, e, c, k, g⟩ from fun h => h1 h.1)]
    simp -implicitDefEqProofs only [go_sem, simprocAttr, -Int.reducePow, Tryz.f54, DD, x_app, x_ga0, x_gas, x_gan, Int.cast_ofNat_Int, eq_self, Int.zero_lt_one, Bool.not_false, Bool.not_true, beq_self_eq_true, Raw.cells]
    refine callK_pl annuluslaw12_small.call (q1) (pl1 (pld_dy _ _ _)) ?_
    simp -implicitDefEqProofs only [go_sem, simprocAttr, -Int.reducePow, DD, x_app, x_ga0, x_gas, x_gan, Int.cast_ofNat_Int, eq_self, Int.zero_lt_one, Bool.not_false, Bool.not_true, beq_self_eq_true]

theorem fewD12_s (t : RawT) : Sat CT false 40 [.agg t.cells] (Bo (decide t.sm)) := by
  refine sat_of annuluslaw12_fewDisc.ok (by simp) ?_
  have DD := annuluslaw12_fewDisc.dr
  simp only [drP, drPx, drPt, drR, drS, drT, bodyOf, Tryz.f40, Nat.reduceEqDiff, reduceIte, true_and, and_true] at DD
  have q1 := point12_s t.c
  have q2 := small12_s t.o t.p t.q
  obtain ⟨⟨b, l, e, c, k, g⟩, o, p, q⟩ := t
  simp only [Raw.cells] at q1
  by_cases h1 : Raw.sm ⟨b, l, e, c, k, g⟩
  · rw [decide_eq_true h1] at q1
    rw [show decide (RawT.sm ⟨⟨b, l, e, c, k, g⟩, o, p, q⟩) = decide (p.length ≤ 3 ∧ -200 ≤ q ∧ q ≤ 200) from decide_eq_decide.2 ⟨fun h => h.2, fun h => ⟨h1, h⟩⟩]
    simp -implicitDefEqProofs only [go_sem, simprocAttr, -Int.reducePow, Tryz.f40, DD, RawT.cells, List.take_succ_cons, List.drop_succ_cons, List.take_succ_cons, List.drop_succ_cons]
    refine callK_q annuluslaw12_point.call (q1) rfl rfl ?_
    simp -implicitDefEqProofs only [go_sem, simprocAttr, -Int.reducePow, DD, RawT.cells, List.take_succ_cons, List.drop_succ_cons, List.take_succ_cons, List.drop_succ_cons]
    refine callK_q annuluslaw12_small.call (q2) rfl rfl ?_
    simp -implicitDefEqProofs only [go_sem, simprocAttr, -Int.reducePow, DD, RawT.cells, List.take_succ_cons, List.drop_succ_cons, List.take_succ_cons, List.drop_succ_cons]
  · rw [decide_eq_false h1] at q1
    rw [decide_eq_false (show ¬ RawT.sm ⟨⟨b, l, e, c, k, g⟩, o, p, q⟩ from fun h => h1 h.1)]
    simp -implicitDefEqProofs only [go_sem, simprocAttr, -Int.reducePow, Tryz.f40, DD, RawT.cells, List.take_succ_cons, List.drop_succ_cons, List.take_succ_cons, List.drop_succ_cons]
    refine callK_q annuluslaw12_point.call (q1) rfl rfl ?_
    simp -implicitDefEqProofs only [go_sem, simprocAttr, -Int.reducePow, DD, RawT.cells, List.take_succ_cons, List.drop_succ_cons, List.take_succ_cons, List.drop_succ_cons]
theorem pld_rawT (t : RawT) : PlD (.agg t.cells) := by
  refine ⟨isD_agg (fun a ha => ?_), fun H => rfl, fun H a ha => ?_, fun H l => rfl⟩
  · simp only [RawT.cells, List.mem_cons, List.not_mem_nil, or_false] at ha
    rcases ha with rfl | rfl | rfl | rfl | rfl | rfl | rfl | rfl | rfl <;> first | exact .v _ | exact isD_u32 _ _
  · simp only [RawT.cells, List.mem_cons, List.not_mem_nil, or_false] at ha
    rcases ha with rfl | rfl | rfl | rfl | rfl | rfl | rfl | rfl | rfl <;> trivial
theorem fewB12_s (F : Nat → RawT) (hn : n ≤ 9223372036854775807) : Sat CT false 38 [.sl n (tql n F)] (Bo (decide ((∀ i, i < n → (F i).sm) ∧ n ≤ 10))) := by
  refine sat_of annuluslaw12_fewBalls.ok (by simp) ?_
  have DD := annuluslaw12_fewBalls.dr
  simp only [drP, drPx, drPt, drR, drS, drT, bodyOf, Tryz.f38, Nat.reduceEqDiff, reduceIte, true_and, and_true] at DD
  have hL := tql_len n F
  simp -implicitDefEqProofs only [go_sem, simprocAttr, -Int.reducePow, Tryz.f38, DD, x_app, x_ga0, x_gas, x_gan, Int.cast_ofNat_Int, eq_self, Int.zero_lt_one, Bool.not_false, Bool.not_true, beq_self_eq_true]
  refine loop_of aW0_mono (fun q σ => ∃ sl i, σ = ⟨sl, []⟩ ∧ q = n - i ∧ i ≤ n ∧ look sl 0 = .sl n (tql n F) ∧ look sl 3 = I64 (i : Nat) ∧ ∀ j, j < i → (F j).sm) ?_ (n := n)
    ⟨_, 0, rfl, rfl, Nat.zero_le _, by simp [x_look], by simp [x_look], fun j hj => by omega⟩
  rintro q _ ⟨sl, i, rfl, rfl, hi, k0, k3, hinv⟩
  by_cases hid : i = n
  · subst hid
    have ed : decide ((∀ j, j < i → (F j).sm) ∧ i ≤ 10) = decide ((i : Int) ≤ 10) := decide_eq_decide.2 ⟨fun h => by omega, fun h => ⟨hinv, by omega⟩⟩
    rw [ed]
    simp -implicitDefEqProofs only [go_sem, simprocAttr, -Int.reducePow, DD, x_app, x_ga0, x_gas, x_gan, Int.cast_ofNat_Int, eq_self, Int.zero_lt_one, Bool.not_false, Bool.not_true, beq_self_eq_true, k0, k3, Int.lt_irrefl]
  · have c1 : (i : Int) < (n : Int) := by omega
    have ci : IntKind.i64.wrap ((i : Int) + 1) = ((i + 1 : Nat) : Int) := by rw [wrap_i64 (by omega) (by omega)]; omega
    have c2 : (0 : Int) ≤ (i : Int) := by omega
    have c4 : i * 9 < n * 9 := by omega
    have c5 : i * 9 + 9 ≤ n * 9 := by omega
    have hc := tql_el F (show i < n by omega)
    have q1 := fewD12_s (F i)
    by_cases h1 : (F i).sm
    · rw [decide_eq_true h1] at q1
      simp -implicitDefEqProofs only [go_sem, simprocAttr, -Int.reducePow, DD, x_app, x_ga0, x_gas, x_gan, Int.cast_ofNat_Int, eq_self, Int.zero_lt_one, Bool.not_false, Bool.not_true, beq_self_eq_true, k0, k3, ci, c1, c2, c4, c5, hc, hL]
      refine callK_pl annuluslaw12_fewDisc.call (q1) (pl1 (pld_rawT _)) ?_
      simp -implicitDefEqProofs only [go_sem, simprocAttr, -Int.reducePow, DD, x_app, x_ga0, x_gas, x_gan, Int.cast_ofNat_Int, eq_self, Int.zero_lt_one, Bool.not_false, Bool.not_true, beq_self_eq_true, k0, k3, ci, c1, c2, c4, c5, hc, hL]
      exact ⟨n - (i + 1), by omega, _, i + 1, rfl, rfl, by omega, by simp [x_look, k0], by simp [x_look], fun j hj => by
          rcases Nat.lt_or_ge j i with h | h
          · exact hinv j h
          · rw [show j = i by omega]; exact h1⟩
    · rw [decide_eq_false h1] at q1
      rw [decide_eq_false (fun h => h1 (h.1 i (by omega)))]
      simp -implicitDefEqProofs only [go_sem, simprocAttr, -Int.reducePow, DD, x_app, x_ga0, x_gas, x_gan, Int.cast_ofNat_Int, eq_self, Int.zero_lt_one, Bool.not_false, Bool.not_true, beq_self_eq_true, k0, k3, ci, c1, c2, c4, c5, hc, hL]
      refine callK_pl annuluslaw12_fewDisc.call (q1) (pl1 (pld_rawT _)) ?_
      simp -implicitDefEqProofs only [go_sem, simprocAttr, -Int.reducePow, DD, x_app, x_ga0, x_gas, x_gan, Int.cast_ofNat_Int, eq_self, Int.zero_lt_one, Bool.not_false, Bool.not_true, beq_self_eq_true, k0, k3, ci, c1, c2, c4, c5, hc, hL]
theorem of12_s (a r : Int) (ha : a.natAbs < 1000000) (hr : r.natAbs < 1000000) : Sat CT false 83 [I64 a, I64 r] (TI (zI a 0) (dv r 0)) := by
  refine sat_of annuluslaw12_of.ok (by simp) ?_
  have DD := annuluslaw12_of.dr
  simp only [drP, drPx, drPt, drR, drS, drT, bodyOf, Tryz.f83, Nat.reduceEqDiff, reduceIte, true_and, and_true] at DD
  have u1 := rof8_sat a 0 (by omega) (by omega) (by omega) (by omega)
  have u2 := rof4_sat r (by omega) (by omega)
  simp -implicitDefEqProofs only [go_sem, simprocAttr, -Int.reducePow, Tryz.f83, DD, TI, zI, List.take_succ_cons, List.drop_succ_cons]
  refine callK_q annulusref8_Of.call (u1) rfl rfl ?_
  simp -implicitDefEqProofs only [go_sem, simprocAttr, -Int.reducePow, DD, TI, zI, List.take_succ_cons, List.drop_succ_cons]
  refine callK_q annulusref4_Of.call (u2) rfl rfl ?_
  simp -implicitDefEqProofs only [go_sem, simprocAttr, -Int.reducePow, DD, TI, zI, List.take_succ_cons, List.drop_succ_cons]
  rfl
end Go.Ab
