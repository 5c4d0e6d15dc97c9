/- Contracts of this seat's functions (of each call: what it answers), walked over the abstract machine, and the laws of numbers that they want. Conditions: those that each theorem states. -/
import Derived.Test.YtikhbokeaikcpaaGreatDoorK6
set_option linter.unusedVariables false
set_option maxRecDepth 20000
set_option linter.unusedSimpArgs false
set_option linter.unusedSectionVars false
namespace Go.Ab
open Go.Proofs
open Cx (zero one)
attribute [-go_sem] appF newsF
variable {a b : AV} {x y r s t : Dyadic} {z w c d e : Cx} {B C B' C' n m P : Nat} {cs ds : List AV} {u u' : Nat → Cx} {v v' : Nat → Dyadic} {f g : Po}
/-! balls: sums, derivatives, what is known exactly -/
theorem CB.add' (h : CB z B) (g : CB w C) : CB (z + w) (max B C + 1) := ⟨DB.add' h.1 g.1, DB.add' h.2 g.2⟩
theorem bsC_cb (h : ∀ i, i < n → CB (u i) 296) (g : ∀ i, i < m → CB (u' i) 296) (i : Nat) : CB (bsC n m u u' i) 297 := by
  unfold bsC
  refine CB.add' (B := 296) (C := 296) ?_ ?_
  · split; exact h i ‹_›; exact CB.zero _
  · split; exact g i ‹_›; exact CB.zero _
theorem bsR_db (h : ∀ i, i < n → DB (v i) 296) (g : ∀ i, i < m → DB (v' i) 296) (i : Nat) : DB (bsR n m v v' i) 297 := by
  unfold bsR
  refine DB.add' (B := 296) (C := 296) ?_ ?_
  · split; exact rp_db (h i ‹_›); exact DB.zero _
  · split; exact rp_db (g i ‹_›); exact DB.zero _
theorem pr_ti0 (c : Cx) : PlR (.agg [Bo (decide (dnum c.re < 0)), U32 (lim (dnum c.re).natAbs), I64 (dexp c.re), Bo (decide (dnum c.im < 0)), U32 (lim (dnum c.im).natAbs), I64 (dexp c.im), Bo false, .v (.slice none 0 0), I64 0]) (TI c 0) := by
  refine ⟨(pld_TI c 0).isd, fun H => ?_, fun H a ha => ?_, fun H l => rfl⟩
  · show AV.agg [Bo (decide (dnum c.re < 0)), U32 (lim (dnum c.re).natAbs), I64 (dexp c.re), Bo (decide (dnum c.im < 0)), U32 (lim (dnum c.im).natAbs), I64 (dexp c.im), Bo false, .sl 0 [], I64 0] = TI c 0
    unfold TI
    rw [z0a, z0b, de0]; rfl
  · simp only [List.mem_cons, List.not_mem_nil, or_false] at ha
    rcases ha with rfl | rfl | rfl | rfl | rfl | rfl | rfl | rfl | rfl <;> trivial
theorem fequal_y (hc : CB c B) (hr : DB r B') (hB : B ≤ 20000) (hB' : B' ≤ 20000) : Sat CT false 48 [TI c r, TI c r] (Bo true) := by
  have := fequal_s hc hr hc hr hB hB hB' hB'
  rwa [decide_eq_true ⟨rfl, rfl⟩] at this
theorem x_hset2 {H : Heap} {x y z : AObj} : ((H ++ [x]) ++ [y]).set H.length z = (H ++ [z]) ++ [y] := by simp [List.set_append]
theorem x_hset3 {H : Heap} {x y z : AObj} : ((H ++ [x]) ++ [y]).set (H.length + 1) z = (H ++ [x]) ++ [z] := by simp [List.set_append]
theorem x_hget5 {H : Heap} {x y d : AObj} : ((H ++ [x]) ++ [y]).getD (H.length + 1) d = y := by simp [List.getD_eq_getElem?_getD]
theorem x_hset4 {H : Heap} {x y z : AObj} : ((H ++ [x]) ++ [y]).set (H ++ [x]).length z = (H ++ [x]) ++ [z] := by simp [List.set_append]
theorem x_hset5 {H : Heap} {x y z u : AObj} : ((H ++ [x]) ++ [y]).set (H ++ [u]).length z = (H ++ [x]) ++ [z] := by simp [List.set_append]
theorem x_hget6 {H : Heap} {x y d u : AObj} : ((H ++ [x]) ++ [y]).getD (H ++ [u]).length d = y := by simp [List.getD_eq_getElem?_getD]
section
attribute [local go_sem] x_takeT x_lenT x_leafT x_hget2 x_hget3 x_hget4 x_zerA9 x_hset2 x_hset3 x_hget5 x_hset4 x_hset5 x_hget6
set_option maxHeartbeats 1000000 in
theorem sums_s (h : RTs cs n u v 296 296) (hcs : ∀ c ∈ cs, IsD c) (hn : n ≤ 1000) (g : RTs ds m u' v' 296 296) (hds : ∀ c ∈ ds, IsD c) (hm : m ≤ 1000) :
    Sat CT false 51 [.sl n cs, .sl m ds] (Bo true) := by
  refine sat_of annuluslaw12_sums.ok (by simp) ?_
  have DD := annuluslaw12_sums.dr
  simp only [drP, drPx, drPt, drR, drS, drT, bodyOf, Tryz.f51, Nat.reduceEqDiff, reduceIte, true_and, and_true] at DD
  have p1 := badd_s h hcs (by omega) g hds (by omega)
  have hmx : max (n : Int) (m : Int) = ((max n m : Nat) : Int) := by omega
  have hub := fun i hi => (h.el i hi).cb
  have hvb := fun i hi => (h.el i hi).db
  have gub := fun i hi => (g.el i hi).cb
  have gvb := fun i hi => (g.el i hi).db
  have bC := bsC_cb hub gub
  have bR := bsR_db hvb gvb
  have hlen := h.len
  have glen := g.len
  obtain ⟨N, hN⟩ : ∃ N, max n m = N := ⟨_, rfl⟩
  rw [hN] at p1 hmx
  have hL := tls_len N (bsC n m u u') (bsR n m v v')
  unfold TA at p1
  simp -implicitDefEqProofs only [go_sem, simprocAttr, -Int.reducePow, Tryz.f51, DD, x_app, x_ga0, x_gas, x_gan, Int.cast_ofNat_Int, eq_self, Int.zero_lt_one, Bool.not_false, Bool.not_true, beq_self_eq_true]
  refine callK_pl balls_Add.call (p1) (pl2 (pld_sl hcs) (pld_sl hds)) ?_
  simp -implicitDefEqProofs only [go_sem, simprocAttr, -Int.reducePow, DD, x_app, x_ga0, x_gas, x_gan, Int.cast_ofNat_Int, eq_self, Int.zero_lt_one, Bool.not_false, Bool.not_true, beq_self_eq_true, hmx]
  refine loop_of aW0_mono (fun k σ => ∃ sl H i, σ = ⟨sl, H⟩ ∧ k = N - i ∧ i ≤ N ∧ look sl 0 = .sl n cs ∧ look sl 1 = .sl m ds ∧ look sl 5 = .sl N (tls N (bsC n m u u') (bsR n m v v')) ∧ look sl 6 = I64 (i : Nat)) ?_ (n := N)
    ⟨_, _, 0, rfl, rfl, Nat.zero_le _, by simp [x_look], by simp [x_look], by simp [x_look], by simp [x_look]⟩
  rintro k _ ⟨sl, H, i, rfl, rfl, hi, k0, k1, k5, k6⟩
  by_cases hid : i = N
  · subst hid
    simp -implicitDefEqProofs only [go_sem, simprocAttr, -Int.reducePow, DD, x_app, x_ga0, x_gas, x_gan, Int.cast_ofNat_Int, eq_self, Int.zero_lt_one, Bool.not_false, Bool.not_true, beq_self_eq_true, k0, k1, k5, k6, Int.lt_irrefl]
  · have c1 : (i : Int) < (N : Int) := by omega
    have c2 : (0 : Int) ≤ (i : Int) := by omega
    have c3 : IntKind.i64.wrap ((i : Int) + 1) = ((i + 1 : Nat) : Int) := by rw [wrap_id (by omega)]; omega
    have c4 : i * 9 < N * 9 := by omega
    have c5 : i * 9 + 9 ≤ N * 9 := by omega
    have hc := tls_el (bsC n m u u') (bsR n m v v') (show i < N by omega)
    have q3 := fequal_y (bC i) (bR i) (by decide) (by decide)
    by_cases h1 : i < n
    · have d1 : (i : Int) < (n : Int) := by omega
      have d4 : i * 9 < cs.length := by omega
      have d5 : i * 9 + 9 ≤ cs.length := by omega
      obtain ⟨s, l, e, t, kk, gg, o, p, qq, hc1, hr1⟩ := h.cells h1
      have q1 := fdisc_s hr1 (by decide) (by decide)
      by_cases h2 : i < m
      · have e1 : (i : Int) < (m : Int) := by omega
        have e4 : i * 9 < ds.length := by omega
        have e5 : i * 9 + 9 ≤ ds.length := by omega
        obtain ⟨s', l', e', t', kk', gg', o', p', qq', hc2, hr2⟩ := g.cells h2
        have q2 := fdisc_s hr2 (by decide) (by decide)
        have q4 := fadd_s (hub i h1) (rp_db (hvb i h1)) (gub i h2) (rp_db (gvb i h2)) (by decide) (by decide) (by decide) (by decide)
        rw [show u i + u' i = bsC n m u u' i by simp only [bsC, if_pos h1, if_pos h2], show rp (v i) + rp (v' i) = bsR n m v v' i by simp only [bsR, if_pos h1, if_pos h2]] at q4
        simp -implicitDefEqProofs only [go_sem, simprocAttr, -Int.reducePow, DD, x_app, x_ga0, x_gas, x_gan, Int.cast_ofNat_Int, eq_self, Int.zero_lt_one, Bool.not_false, Bool.not_true, beq_self_eq_true, k0, k1, k5, k6, c1, c2, c3, c4, c5, hc, hL, d1, d4, d5, hc1, e1, e4, e5, hc2]
        refine callK_pl annulusref8_Disc.call (q1) (pl1 (pld_RT hr1)) ?_
        simp -implicitDefEqProofs only [go_sem, simprocAttr, -Int.reducePow, DD, x_app, x_ga0, x_gas, x_gan, Int.cast_ofNat_Int, eq_self, Int.zero_lt_one, Bool.not_false, Bool.not_true, beq_self_eq_true, k0, k1, k5, k6, c1, c2, c3, c4, c5, hc, hL, d1, d4, d5, hc1, e1, e4, e5, hc2, TI_c]
        refine callK_pl annulusref8_Disc.call (q2) (pl1 (pld_RT hr2)) ?_
        simp -implicitDefEqProofs only [go_sem, simprocAttr, -Int.reducePow, DD, x_app, x_ga0, x_gas, x_gan, Int.cast_ofNat_Int, eq_self, Int.zero_lt_one, Bool.not_false, Bool.not_true, beq_self_eq_true, k0, k1, k5, k6, c1, c2, c3, c4, c5, hc, hL, d1, d4, d5, hc1, e1, e4, e5, hc2]
        refine callK_pl annulusref8_AddDisc.call (q4) (pl2 (pld_TI _ _) (pld_TI _ _)) ?_
        simp -implicitDefEqProofs only [go_sem, simprocAttr, -Int.reducePow, DD, x_app, x_ga0, x_gas, x_gan, Int.cast_ofNat_Int, eq_self, Int.zero_lt_one, Bool.not_false, Bool.not_true, beq_self_eq_true, k0, k1, k5, k6, c1, c2, c3, c4, c5, hc, hL, d1, d4, d5, hc1, e1, e4, e5, hc2, TI_c]
        refine callK_pl annulusref8_EqualDisc.call (q3) (pl2 (pld_TI _ _) (pld_TI _ _)) ?_
        simp -implicitDefEqProofs only [go_sem, simprocAttr, -Int.reducePow, DD, x_app, x_ga0, x_gas, x_gan, Int.cast_ofNat_Int, eq_self, Int.zero_lt_one, Bool.not_false, Bool.not_true, beq_self_eq_true, k0, k1, k5, k6, c1, c2, c3, c4, c5, hc, hL, d1, d4, d5, hc1, e1, e4, e5, hc2]
        exact ⟨N - (i + 1), by omega, _, _, i + 1, rfl, rfl, by omega, by simp [x_look, k0], by simp [x_look, k1], by simp [x_look, k5], by simp [x_look]⟩
      · have e1 : ¬ (i : Int) < (m : Int) := by omega
        rw [show bsC n m u u' i = u i by simp only [bsC, if_pos h1, if_neg h2]; exact Cx.add_zero _, show bsR n m v v' i = rp (v i) by simp only [bsR, if_pos h1, if_neg h2]; exact Dyadic.add_zero _] at q3 hc
        simp -implicitDefEqProofs only [go_sem, simprocAttr, -Int.reducePow, DD, x_app, x_ga0, x_gas, x_gan, Int.cast_ofNat_Int, eq_self, Int.zero_lt_one, Bool.not_false, Bool.not_true, beq_self_eq_true, k0, k1, k5, k6, c1, c2, c3, c4, c5, hc, hL, d1, d4, d5, hc1, e1]
        refine callK_pl annulusref8_Disc.call (q1) (pl1 (pld_RT hr1)) ?_
        simp -implicitDefEqProofs only [go_sem, simprocAttr, -Int.reducePow, DD, x_app, x_ga0, x_gas, x_gan, Int.cast_ofNat_Int, eq_self, Int.zero_lt_one, Bool.not_false, Bool.not_true, beq_self_eq_true, k0, k1, k5, k6, c1, c2, c3, c4, c5, hc, hL, d1, d4, d5, hc1, e1, TI_c]
        refine callK_pl annulusref8_EqualDisc.call (q3) (pl2 (pld_TI _ _) (pld_TI _ _)) ?_
        simp -implicitDefEqProofs only [go_sem, simprocAttr, -Int.reducePow, DD, x_app, x_ga0, x_gas, x_gan, Int.cast_ofNat_Int, eq_self, Int.zero_lt_one, Bool.not_false, Bool.not_true, beq_self_eq_true, k0, k1, k5, k6, c1, c2, c3, c4, c5, hc, hL, d1, d4, d5, hc1, e1]
        exact ⟨N - (i + 1), by omega, _, _, i + 1, rfl, rfl, by omega, by simp [x_look, k0], by simp [x_look, k1], by simp [x_look, k5], by simp [x_look]⟩
    · have d1 : ¬ (i : Int) < (n : Int) := by omega
      have h2 : i < m := by omega
      have e1 : (i : Int) < (m : Int) := by omega
      have e4 : i * 9 < ds.length := by omega
      have e5 : i * 9 + 9 ≤ ds.length := by omega
      obtain ⟨s', l', e', t', kk', gg', o', p', qq', hc2, hr2⟩ := g.cells h2
      have q2 := fdisc_s hr2 (by decide) (by decide)
      have q4 := fadd_s (CB.zero 296) (DB.zero 296) (gub i h2) (rp_db (gvb i h2)) (by decide) (by decide) (by decide) (by decide)
      rw [show zero + u' i = bsC n m u u' i by simp only [bsC, if_neg h1, if_pos h2], show 0 + rp (v' i) = bsR n m v v' i by simp only [bsR, if_neg h1, if_pos h2]] at q4
      simp -implicitDefEqProofs only [go_sem, simprocAttr, -Int.reducePow, DD, x_app, x_ga0, x_gas, x_gan, Int.cast_ofNat_Int, eq_self, Int.zero_lt_one, Bool.not_false, Bool.not_true, beq_self_eq_true, k0, k1, k5, k6, c1, c2, c3, c4, c5, hc, hL, d1, e1, e4, e5, hc2]
      refine callK_pl annulusref8_Disc.call (q2) (pl1 (pld_RT hr2)) ?_
      simp -implicitDefEqProofs only [go_sem, simprocAttr, -Int.reducePow, DD, x_app, x_ga0, x_gas, x_gan, Int.cast_ofNat_Int, eq_self, Int.zero_lt_one, Bool.not_false, Bool.not_true, beq_self_eq_true, k0, k1, k5, k6, c1, c2, c3, c4, c5, hc, hL, d1, e1, e4, e5, hc2]
      refine callK_pr annulusref8_AddDisc.call q4 (.cons (Blt.plr (.inr ⟨rfl, rfl, rfl⟩)) (.cons (pld_TI _ _).r .nil)) ?_
      simp -implicitDefEqProofs only [go_sem, simprocAttr, -Int.reducePow, DD, x_app, x_ga0, x_gas, x_gan, Int.cast_ofNat_Int, eq_self, Int.zero_lt_one, Bool.not_false, Bool.not_true, beq_self_eq_true, k0, k1, k5, k6, c1, c2, c3, c4, c5, hc, hL, d1, e1, e4, e5, hc2, TI_c]
      refine callK_pl annulusref8_EqualDisc.call (q3) (pl2 (pld_TI _ _) (pld_TI _ _)) ?_
      simp -implicitDefEqProofs only [go_sem, simprocAttr, -Int.reducePow, DD, x_app, x_ga0, x_gas, x_gan, Int.cast_ofNat_Int, eq_self, Int.zero_lt_one, Bool.not_false, Bool.not_true, beq_self_eq_true, k0, k1, k5, k6, c1, c2, c3, c4, c5, hc, hL, d1, e1, e4, e5, hc2]
      exact ⟨N - (i + 1), by omega, _, _, i + 1, rfl, rfl, by omega, by simp [x_look, k0], by simp [x_look, k1], by simp [x_look, k5], by simp [x_look]⟩
set_option maxHeartbeats 1000000 in
theorem derives_s (h : RTs cs n u v 296 296) (hcs : ∀ c ∈ cs, IsD c) (hn : n ≤ 1000) : Sat CT false 52 [.sl n cs] (Bo true) := by
  refine sat_of annuluslaw12_derives.ok (by simp) ?_
  have DD := annuluslaw12_derives.dr
  simp only [drP, drPx, drPt, drR, drS, drT, bodyOf, Tryz.f52, Nat.reduceEqDiff, reduceIte, true_and, and_true] at DD
  have p1 := bderiv_s h hcs (by omega)
  have c0 : IntKind.i64.wrap ((n : Int) - 1) = (n : Int) - 1 := wrap_id (by omega)
  have hmx : max (0 : Int) ((n : Int) - 1) = ((n - 1 : Nat) : Int) := by omega
  have hub := fun i hi => (h.el i hi).cb
  have hvb := fun i hi => (h.el i hi).db
  have hlen := h.len
  obtain ⟨N, hN⟩ : ∃ N, n - 1 = N := ⟨_, rfl⟩
  rw [hN] at p1 hmx
  have hL := tls_len N (dvC u) (dvR v)
  unfold TA at p1
  simp -implicitDefEqProofs only [go_sem, simprocAttr, -Int.reducePow, Tryz.f52, DD, x_app, x_ga0, x_gas, x_gan, Int.cast_ofNat_Int, eq_self, Int.zero_lt_one, Bool.not_false, Bool.not_true, beq_self_eq_true]
  refine callK_pl balls_Deriv.call (p1) (pl1 (pld_sl hcs)) ?_
  simp -implicitDefEqProofs only [go_sem, simprocAttr, -Int.reducePow, DD, x_app, x_ga0, x_gas, x_gan, Int.cast_ofNat_Int, eq_self, Int.zero_lt_one, Bool.not_false, Bool.not_true, beq_self_eq_true, c0, hmx]
  refine loop_of aW0_mono (fun k σ => ∃ sl H i, σ = ⟨sl, H⟩ ∧ k = N - i ∧ i ≤ N ∧ look sl 0 = .sl n cs ∧ look sl 3 = .sl N (tls N (dvC u) (dvR v)) ∧ look sl 4 = I64 (i : Nat)) ?_ (n := N)
    ⟨_, _, 0, rfl, rfl, Nat.zero_le _, by simp [x_look], by simp [x_look], by simp [x_look]⟩
  rintro k _ ⟨sl, H, i, rfl, rfl, hi, k0, k3, k4⟩
  by_cases hid : i = N
  · subst hid
    simp -implicitDefEqProofs only [go_sem, simprocAttr, -Int.reducePow, DD, x_app, x_ga0, x_gas, x_gan, Int.cast_ofNat_Int, eq_self, Int.zero_lt_one, Bool.not_false, Bool.not_true, beq_self_eq_true, k0, k3, k4, Int.lt_irrefl]
  · have c1 : (i : Int) < (N : Int) := by omega
    have c2 : (0 : Int) ≤ (i : Int) := by omega
    have c3 : IntKind.i64.wrap ((i : Int) + 1) = ((i + 1 : Nat) : Int) := by rw [wrap_id (by omega)]; omega
    have c4 : i * 9 < N * 9 := by omega
    have c5 : i * 9 + 9 ≤ N * 9 := by omega
    have hc := tls_el (dvC u) (dvR v) (show i < N by omega)
    have d1 : ((i + 1 : Nat) : Int) < (n : Int) := by omega
    have d2 : (0 : Int) ≤ ((i + 1 : Nat) : Int) := by omega
    have d4 : (i + 1) * 9 < cs.length := by omega
    have d5 : (i + 1) * 9 + 9 ≤ cs.length := by omega
    obtain ⟨s, l, e, t, kk, gg, o, p, qq, hc1, hr1⟩ := h.cells (i := i + 1) (by omega)
    have q1 := fdisc_s hr1 (by decide) (by decide)
    have q2 := rof4_sat ((i + 1 : Nat) : Int) (by omega) (by omega)
    have bx := dv_small (v := ((i + 1 : Nat) : Int)) (by omega)
    have q3 : Sat CT false 30 [CI (u (i + 1)), DI (dv ((i + 1 : Nat) : Int) 0)] (CI (dvC u i)) := rtimes8 (hub (i + 1) (by omega)) bx (by decide)
    have q4 : Sat CT false 74 [DI (rp (v (i + 1))), DI (dv ((i + 1 : Nat) : Int) 0)] (DI (dvR v i)) := rmul4 (RD_D (rp_db (hvb (i + 1) (by omega)))) (RD_D bx) (by decide) (by decide)
    have bC : CB (dvC u i) 400 := CB.mono (B := 296 + 20) ⟨(hub (i + 1) (by omega)).1.mul bx, (hub (i + 1) (by omega)).2.mul bx⟩ (by decide)
    have bR : DB (dvR v i) 400 := DB.mono (B := 296 + 20) ((rp_db (hvb (i + 1) (by omega))).mul bx) (by decide)
    have q5 := fequal_y bC bR (by decide) (by decide)
    simp -implicitDefEqProofs only [go_sem, simprocAttr, -Int.reducePow, DD, x_app, x_ga0, x_gas, x_gan, Int.cast_ofNat_Int, eq_self, Int.zero_lt_one, Bool.not_false, Bool.not_true, beq_self_eq_true, k0, k3, k4, c1, c2, c3, c4, c5, hc, hL, d1, d2, d4, d5, hc1]
    refine callK_pl annulusref8_Disc.call (q1) (pl1 (pld_RT hr1)) ?_
    simp -implicitDefEqProofs only [go_sem, simprocAttr, -Int.reducePow, DD, x_app, x_ga0, x_gas, x_gan, Int.cast_ofNat_Int, eq_self, Int.zero_lt_one, Bool.not_false, Bool.not_true, beq_self_eq_true, k0, k3, k4, c1, c2, c3, c4, c5, hc, hL, d1, d2, d4, d5, hc1]
    refine callK_pl annulusref4_Of.call (q2) (pl1 pld_int) ?_
    simp -implicitDefEqProofs only [go_sem, simprocAttr, -Int.reducePow, DD, x_app, x_ga0, x_gas, x_gan, Int.cast_ofNat_Int, eq_self, Int.zero_lt_one, Bool.not_false, Bool.not_true, beq_self_eq_true, k0, k3, k4, c1, c2, c3, c4, c5, hc, hL, d1, d2, d4, d5, hc1, TI, DI, DA, List.take_succ_cons, List.drop_succ_cons, List.take_zero, List.drop_zero]
    refine callK_q annulusref8_Times.call (q3) rfl rfl ?_
    simp -implicitDefEqProofs only [go_sem, simprocAttr, -Int.reducePow, DD, x_app, x_ga0, x_gas, x_gan, Int.cast_ofNat_Int, eq_self, Int.zero_lt_one, Bool.not_false, Bool.not_true, beq_self_eq_true, k0, k3, k4, c1, c2, c3, c4, c5, hc, hL, d1, d2, d4, d5, hc1, TI, DI, DA, CI, List.take_succ_cons, List.drop_succ_cons, List.take_zero, List.drop_zero]
    refine callK_q annulusref4_Mul.call (q4) rfl rfl ?_
    simp -implicitDefEqProofs only [go_sem, simprocAttr, -Int.reducePow, DD, x_app, x_ga0, x_gas, x_gan, Int.cast_ofNat_Int, eq_self, Int.zero_lt_one, Bool.not_false, Bool.not_true, beq_self_eq_true, k0, k3, k4, c1, c2, c3, c4, c5, hc, hL, d1, d2, d4, d5, hc1, TI, DI, DA, CI, List.take_succ_cons, List.drop_succ_cons, List.take_zero, List.drop_zero]
    refine callK_pl annulusref8_EqualDisc.call (q5) (pl2 (pld_TI (dvC u i) (dvR v i)) (pld_TI (dvC u i) (dvR v i))) ?_
    simp -implicitDefEqProofs only [go_sem, simprocAttr, -Int.reducePow, DD, x_app, x_ga0, x_gas, x_gan, Int.cast_ofNat_Int, eq_self, Int.zero_lt_one, Bool.not_false, Bool.not_true, beq_self_eq_true, k0, k3, k4, c1, c2, c3, c4, c5, hc, hL, d1, d2, d4, d5, hc1, TI, DI, DA, CI, List.take_succ_cons, List.drop_succ_cons, List.take_zero, List.drop_zero]
    exact ⟨N - (i + 1), by omega, _, _, i + 1, rfl, rfl, by omega, by simp [x_look, k0], by simp [x_look, k3], by simp [x_look]⟩
set_option maxHeartbeats 1000000 in
theorem ofs_s (g : RP ds m f 296) (hds : ∀ c ∈ ds, IsD c) (hm : m ≤ 1000) : Sat CT false 53 [.sl m ds] (Bo true) := by
  refine sat_of annuluslaw12_ofs.ok (by simp) ?_
  have DD := annuluslaw12_ofs.dr
  simp only [drP, drPx, drPt, drR, drS, drT, bodyOf, Tryz.f53, Nat.reduceEqDiff, reduceIte, true_and, and_true] at DD
  have q := rtrim_s g (by decide)
  have p1 := bof_s g hds (by decide)
  have hle := dg_le m f
  have hfb := g.pb
  generalize dg m f = d at *
  have hL := tls_len d f (fun _ => 0)
  have hL2 := pcl_len d f
  unfold TA at p1
  simp -implicitDefEqProofs only [go_sem, simprocAttr, -Int.reducePow, Tryz.f53, DD, x_app, x_ga0, x_gas, x_gan, Int.cast_ofNat_Int, eq_self, Int.zero_lt_one, Bool.not_false, Bool.not_true, beq_self_eq_true]
  refine callK_pl annulusref11_Trim.call (q) (pl1 (pld_sl hds)) ?_
  simp -implicitDefEqProofs only [go_sem, simprocAttr, -Int.reducePow, DD, x_app, x_ga0, x_gas, x_gan, Int.cast_ofNat_Int, eq_self, Int.zero_lt_one, Bool.not_false, Bool.not_true, beq_self_eq_true, PA]
  refine callK_pl balls_Of.call (p1) (pl1 (pld_sl hds)) ?_
  simp -implicitDefEqProofs only [go_sem, simprocAttr, -Int.reducePow, DD, x_app, x_ga0, x_gas, x_gan, Int.cast_ofNat_Int, eq_self, Int.zero_lt_one, Bool.not_false, Bool.not_true, beq_self_eq_true]
  refine loop_of aW0_mono (fun k σ => ∃ sl H i, σ = ⟨sl, H⟩ ∧ k = d - i ∧ i ≤ d ∧ look sl 3 = .sl d (pcl d f) ∧ look sl 4 = .sl d (tls d f (fun _ => 0)) ∧ look sl 5 = I64 (i : Nat)) ?_ (n := d)
    ⟨_, _, 0, rfl, rfl, Nat.zero_le _, by simp [x_look], by simp [x_look], by simp [x_look]⟩
  rintro k _ ⟨sl, H, i, rfl, rfl, hi, k3, k4, k5⟩
  by_cases hid : i = d
  · subst hid
    simp -implicitDefEqProofs only [go_sem, simprocAttr, -Int.reducePow, DD, x_app, x_ga0, x_gas, x_gan, Int.cast_ofNat_Int, eq_self, Int.zero_lt_one, Bool.not_false, Bool.not_true, beq_self_eq_true, k3, k4, k5, Int.lt_irrefl]
  · have c1 : (i : Int) < (d : Int) := by omega
    have c2 : (0 : Int) ≤ (i : Int) := by omega
    have c3 : IntKind.i64.wrap ((i : Int) + 1) = ((i + 1 : Nat) : Int) := by rw [wrap_id (by omega)]; omega
    have c4 : i * 9 < d * 9 := by omega
    have c5 : i * 9 + 9 ≤ d * 9 := by omega
    have d4 : i * 6 < d * 6 := by omega
    have d5 : i * 6 + 6 ≤ d * 6 := by omega
    have hc := tls_el f (fun _ => 0) (show i < d by omega)
    have hc1 := pcl_el f (show i < d by omega)
    have q5 := fequal_y (hfb i) (DB.zero 0) (by decide) (by decide)
    simp -implicitDefEqProofs only [go_sem, simprocAttr, -Int.reducePow, DD, x_app, x_ga0, x_gas, x_gan, Int.cast_ofNat_Int, eq_self, Int.zero_lt_one, Bool.not_false, Bool.not_true, beq_self_eq_true, WI, IA, DI, DA, CI, k3, k4, k5, c1, c2, c3, c4, c5, hc, hL, hL2, d4, d5, hc1, CIc]
    refine callK_pr annulusref8_EqualDisc.call q5 (.cons (pld_TI _ _).r (.cons (pr_ti0 _) .nil)) ?_
    simp -implicitDefEqProofs only [go_sem, simprocAttr, -Int.reducePow, DD, x_app, x_ga0, x_gas, x_gan, Int.cast_ofNat_Int, eq_self, Int.zero_lt_one, Bool.not_false, Bool.not_true, beq_self_eq_true, k3, k4, k5, c1, c2, c3, c4, c5, hc, hL, hL2, d4, d5, hc1]
    exact ⟨d - (i + 1), by omega, _, _, i + 1, rfl, rfl, by omega, by simp [x_look, k3], by simp [x_look, k4], by simp [x_look]⟩
end
end Go.Ab
