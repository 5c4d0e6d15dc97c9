/- Contracts of this seat's functions (of each call: what it answers), walked over the abstract machine, and the laws of numbers that they want. Conditions: those that each theorem states. -/
import Derived.Test.YthkpbnbbhlpkjaaGreatDoorM1
set_option linter.unusedVariables false
set_option maxRecDepth 20000
set_option linter.unusedSimpArgs false
set_option linter.unusedSectionVars false
namespace Go.Ab
open Go.Proofs
open Cx (zero one)
attribute [-go_sem] appF newsF
variable {a b : AV} {x y r s : Dyadic} {z w c d : Cx} {B C B' C' n m : Nat}
/-! more of discs: of the code -/
theorem dscale_k (ha : RD a x B) (hB : B ≤ 20000) (k : Int) (hk : k.natAbs ≤ 20000) : Sat CT false 166 [a, I64 k] (DI (x * dv 1 k)) := by
  refine sat_of dyad_Scale.ok (by simp) ?_
  have DD := dyad_Scale.dr
  simp only [drP, drPx, drPt, drR, drS, drT, bodyOf, Tryz.f166, Nat.reduceEqDiff, reduceIte, true_and, and_true] at DD
  obtain ⟨n, l, e, rfl, hl, rfl, hv, hL, he, hdb⟩ := ha
  have q1 := kept_sat e (by omega)
  have q2 := dheld_sat k hk
  have c1 : IntKind.i64.wrap (e + k) = e + k := wrap_id (by omega)
  have q3 := raw_sat n l (e + k) hl (by omega) (pow2_lt hv (by omega)) (by omega)
  rw [show dv (iv n l) (e + k) = dv (iv n l) e * dv 1 k by rw [dv_mul, Int.mul_one]] at q3
  simp -implicitDefEqProofs only [go_sem, simprocAttr, -Int.reducePow, Tryz.f166, DD, c1, List.take_succ_cons, List.drop_succ_cons]
  refine callK_q dyad_kept.call (q1) rfl rfl ?_
  simp -implicitDefEqProofs only [go_sem, simprocAttr, -Int.reducePow, DD, c1, List.take_succ_cons, List.drop_succ_cons]
  refine callK_q dyad_held.call (q2) rfl rfl ?_
  simp -implicitDefEqProofs only [go_sem, simprocAttr, -Int.reducePow, DD, c1, List.take_succ_cons, List.drop_succ_cons]
  refine callK_q dyad_Raw.call (q3) rfl rfl ?_
  simp -implicitDefEqProofs only [go_sem, simprocAttr, -Int.reducePow, DD, c1, List.take_succ_cons, List.drop_succ_cons]
theorem sgn_nn {x : Dyadic} : 0 ≤ dnum x ↔ 0 ≤ x.toRat := by
  have h := (dsg_rat x).2
  unfold dsg at h
  have h1 := (dsg_rat (-x)).1
  have e : dsg (-x) = - dsg x := by unfold dsg; rw [(dneg_num x).1, Int.sign_neg]
  rw [e, Dyadic.toRat_neg] at h1
  have e2 : (- dsg x ≤ 0) ↔ 0 ≤ dnum x := by
    unfold dsg
    rw [← Int.sign_nonneg_iff]
    omega
  rw [← e2, h1]
  constructor <;> (intro; grind)
theorem rp_nn (r : Dyadic) : 0 ≤ (rp r).toRat := by
  rw [← sgn_nn]
  unfold rp
  split
  · exact Int.le_refl _
  · rename_i h
    have := Int.sign_nonneg_iff (x := dnum r)
    omega
theorem rp_id {r : Dyadic} (h : 0 ≤ r.toRat) : rp r = r := by
  rw [← sgn_nn] at h
  unfold rp
  have := Int.sign_nonneg_iff (x := dnum r)
  rw [if_neg (by omega)]
theorem rp_rp (r : Dyadic) : rp (rp r) = rp r := rp_id (rp_nn r)
theorem nn_add (hx : 0 ≤ x.toRat) (hy : 0 ≤ y.toRat) : 0 ≤ (x + y).toRat := by rw [Dyadic.toRat_add]; grind
theorem nn_mul (hx : 0 ≤ x.toRat) (hy : 0 ≤ y.toRat) : 0 ≤ (x * y).toRat := by rw [Dyadic.toRat_mul]; exact Rat.mul_nonneg hx hy
/-- what a disc of products is as wide as, before it is rounded -/
def mra (c : Cx) (r : Dyadic) (d : Cx) (s : Dyadic) (P : Nat) : Dyadic := far c P true * s + far d P true * r + r * s
def mrad (c : Cx) (r : Dyadic) (d : Cx) (s : Dyadic) (P : Nat) : Dyadic := upr (mra c r d s P) P
theorem far_db2 (h : CB z B) {P : Nat} (hP1 : 1 ≤ P) (up : Bool) : DB (far z P up) (B + P + 3) := by
  unfold far
  have hn := nrm_db h
  by_cases q : dnum (nrm z) ≤ 0
  · rw [droot_0 q]; exact DB.zero _
  · exact (droot_db2 (Int.not_le.1 q) hn hP1 up).mono (by omega)
theorem far_nn (z : Cx) {P : Nat} (hP : 1 ≤ P) : 0 ≤ (far z P true).toRat := (far_rat z hP).1
theorem upr_nn {P : Nat} (hP : 1 ≤ P) (h : 0 ≤ x.toRat) : 0 ≤ (upr x P).toRat := by
  rw [← sgn_nn] at h ⊢
  unfold upr
  split
  · exact Int.le_refl _
  · unfold gfl
    split
    · exact h
    · have h2 : 0 ≤ RF (dnum x) (2 ^ (dtop x - P + 1 - dexp x).toNat) true := by
        unfold RF
        have : 0 ≤ dnum x / ((2 ^ (dtop x - P + 1 - dexp x).toNat : Nat) : Int) := Int.ediv_nonneg h (Int.natCast_nonneg _)
        split <;> omega
      have h3 := dnum_lt (m := RF (dnum x) (2 ^ (dtop x - P + 1 - dexp x).toNat) true) (e := dtop x - P + 1)
      omega
theorem mra_nn (hr : 0 ≤ r.toRat) (hs : 0 ≤ s.toRat) {P : Nat} (hP : 1 ≤ P) : 0 ≤ (mra c r d s P).toRat :=
  nn_add (nn_add (nn_mul (far_nn c hP) hs) (nn_mul (far_nn d hP) hr)) (nn_mul hr hs)
theorem mra_db (hc : CB c B) (hr : DB r B') (hd : CB d C) (hs : DB s C') {P K : Nat} (hP : 1 ≤ P) (h1 : B + P + 3 + C' ≤ K) (h2 : C + P + 3 + B' ≤ K) (h3 : B' + C' ≤ K) : DB (mra c r d s P) (K + 2) :=
  ((((far_db2 hc hP true).mul hs).mono h1).add (((far_db2 hd hP true).mul hr).mono h2)).add ((hr.mul hs).mono (by omega))
theorem mrad_db (hc : CB c B) (hr : DB r B') (hd : CB d C) (hs : DB s C') {P K : Nat} (hP : 1 ≤ P) (h1 : B + P + 3 + C' ≤ K) (h2 : C + P + 3 + B' ≤ K) (h3 : B' + C' ≤ K) : DB (mrad c r d s P) (K + 3) :=
  upr_db (mra_db hc hr hd hs hP h1 h2 h3) hP
theorem dadds_s (h : RT a c r B B') (g : RT b d s C C') (hB : B ≤ 10000) (hC : C ≤ 10000) (hB' : B' ≤ 10000) (hC' : C' ≤ 10000) : Sat CT false 31 [a, b] (TI (c + d) (rp r + rp s)) := by
  refine sat_of disc_Add.ok (by simp) ?_
  have DD := disc_Add.dr
  simp only [drP, drPx, drPt, drR, drS, drT, bodyOf, Tryz.f31, Nat.reduceEqDiff, reduceIte, true_and, and_true] at DD
  obtain ⟨n, l, e, m, k, f, o, p, q, rfl, hc, hr⟩ := h.ex
  obtain ⟨n', l', e', m', k', f', o', p', q', rfl, gc, gr⟩ := g.ex
  have u1 := gadd_r hc gc (by omega) (by omega)
  have v1 := dfar_s hr (by omega)
  have v2 := dfar_s gr (by omega)
  have v3 := dadd_r (RD_D (rp_db hr.db)) (RD_D (rp_db gr.db)) (by omega) (by omega)
  have b1 : CB (c + d) (max B C + 1) := ⟨DB.add' hc.cb.1 gc.cb.1, DB.add' hc.cb.2 gc.cb.2⟩
  have w1 := dwith_s (RC_C b1) (RD_D (DB.add' (rp_db hr.db) (rp_db gr.db))) (by omega) (by omega)
  rw [rp_id (nn_add (rp_nn r) (rp_nn s))] at w1
  simp -implicitDefEqProofs only [go_sem, simprocAttr, -Int.reducePow, Tryz.f31, DD, TI, List.take_succ_cons, List.drop_succ_cons]
  refine callK_q gauss_Add.call (u1) rfl rfl ?_
  simp -implicitDefEqProofs only [go_sem, simprocAttr, -Int.reducePow, DD, TI, List.take_succ_cons, List.drop_succ_cons]
  refine callK_q disc_far.call (v1) rfl rfl ?_
  simp -implicitDefEqProofs only [go_sem, simprocAttr, -Int.reducePow, DD, TI, List.take_succ_cons, List.drop_succ_cons]
  refine callK_q disc_far.call (v2) rfl rfl ?_
  simp -implicitDefEqProofs only [go_sem, simprocAttr, -Int.reducePow, DD, TI, List.take_succ_cons, List.drop_succ_cons]
  refine callK_q dyad_Add.call (v3) rfl rfl ?_
  simp -implicitDefEqProofs only [go_sem, simprocAttr, -Int.reducePow, DD, TI, List.take_succ_cons, List.drop_succ_cons]
  refine callK_q disc_with.call (w1) rfl rfl ?_
  simp -implicitDefEqProofs only [go_sem, simprocAttr, -Int.reducePow, DD, TI, List.take_succ_cons, List.drop_succ_cons]
theorem dneg_s (h : RT a c r B B') (hB : B ≤ 10000) (hB' : B' ≤ 10000) : Sat CT false 33 [a] (TI (-c) (rp r)) := by
  refine sat_of disc_Neg.ok (by simp) ?_
  have DD := disc_Neg.dr
  simp only [drP, drPx, drPt, drR, drS, drT, bodyOf, Tryz.f33, Nat.reduceEqDiff, reduceIte, true_and, and_true] at DD
  obtain ⟨n, l, e, m, k, f, o, p, q, rfl, hc, hr⟩ := h.ex
  have u1 := gneg_r hc (by omega)
  have w1 := dwith_s (RC_C hc.cb.neg) hr (by omega) (by omega)
  simp -implicitDefEqProofs only [go_sem, simprocAttr, -Int.reducePow, Tryz.f33, DD, TI, List.take_succ_cons, List.drop_succ_cons]
  refine callK_q gauss_Neg.call (u1) rfl rfl ?_
  simp -implicitDefEqProofs only [go_sem, simprocAttr, -Int.reducePow, DD, TI, List.take_succ_cons, List.drop_succ_cons]
  refine callK_q disc_with.call (w1) rfl rfl ?_
  simp -implicitDefEqProofs only [go_sem, simprocAttr, -Int.reducePow, DD, TI, List.take_succ_cons, List.drop_succ_cons]
theorem dmuls_s (h : RT a c r B B') (g : RT b d s C C') (hB : B ≤ 5290) (hC : C ≤ 5290) (hB' : B' ≤ 10000) (hC' : C' ≤ 10000) (p : Int) {K : Nat} (h1 : B + heldP p + 3 + C' ≤ K) (h2 : C + heldP p + 3 + B' ≤ K) (h3 : B' + C' ≤ K) (hK : K ≤ 15000) :
    Sat CT false 35 [a, b, I64 p] (TI (c * d) (mrad c (rp r) d (rp s) (heldP p))) := by
  refine sat_of disc_Mul.ok (by simp) ?_
  have DD := disc_Mul.dr
  simp only [drP, drPx, drPt, drR, drS, drT, bodyOf, Tryz.f35, Nat.reduceEqDiff, reduceIte, true_and, and_true] at DD
  have hP1 := (heldP_v p).2.2.1
  have f1 := dfarn_s h hB p
  have f2 := dfarn_s g hC p
  obtain ⟨n, l, e, m, k, f, o, p', q, rfl, hc, hr⟩ := h.ex
  obtain ⟨n', l', e', m', k', f', o', p'', q', rfl, gc, gr⟩ := g.ex
  have v1 := dfar_s hr (by omega)
  have v2 := dfar_s gr (by omega)
  have x1 := far_db2 hc.cb hP1 true
  have x2 := far_db2 gc.cb hP1 true
  have u1 := dmul_r (RD_D x1) (RD_D (rp_db gr.db)) (by omega) (by omega)
  have u2 := dmul_r (RD_D x2) (RD_D (rp_db hr.db)) (by omega) (by omega)
  have y1 := (x1.mul (rp_db gr.db)).mono h1
  have y2 := (x2.mul (rp_db hr.db)).mono h2
  have u3 := dadd_r (RD_D y1) (RD_D y2) (by omega) (by omega)
  have g1 := gmul_r hc gc (by omega)
  have u4 := dmul_r (RD_D (rp_db hr.db)) (RD_D (rp_db gr.db)) (by omega) (by omega)
  have u5 := dadd_r (RD_D (y1.add y2)) (RD_D ((rp_db hr.db).mul (rp_db gr.db))) (by omega) (by omega)
  have mb := mra_db hc.cb (rp_db hr.db) gc.cb (rp_db gr.db) hP1 h1 h2 h3
  have mn := mra_nn (c := c) (d := d) (rp_nn r) (rp_nn s) hP1
  have t1 := to_up mb (by omega) (sgn_nn.2 mn) p
  have w1 := dwith_s (RC_C (hc.cb.mul gc.cb)) (RD_D (upr_db mb hP1)) (by omega) (by omega)
  rw [rp_id (upr_nn hP1 mn)] at w1
  unfold mrad mra at *
  simp -implicitDefEqProofs only [go_sem, simprocAttr, -Int.reducePow, Tryz.f35, DD, TI, List.take_succ_cons, List.drop_succ_cons]
  refine callK_q disc_far.call (v1) rfl rfl ?_
  simp -implicitDefEqProofs only [go_sem, simprocAttr, -Int.reducePow, DD, TI, List.take_succ_cons, List.drop_succ_cons]
  refine callK_q disc_far.call (v2) rfl rfl ?_
  simp -implicitDefEqProofs only [go_sem, simprocAttr, -Int.reducePow, DD, TI, List.take_succ_cons, List.drop_succ_cons]
  refine callK_q disc_Far.call (f1) rfl rfl ?_
  simp -implicitDefEqProofs only [go_sem, simprocAttr, -Int.reducePow, DD, TI, List.take_succ_cons, List.drop_succ_cons]
  refine callK_q dyad_Mul.call (u1) rfl rfl ?_
  simp -implicitDefEqProofs only [go_sem, simprocAttr, -Int.reducePow, DD, TI, List.take_succ_cons, List.drop_succ_cons]
  refine callK_q disc_Far.call (f2) rfl rfl ?_
  simp -implicitDefEqProofs only [go_sem, simprocAttr, -Int.reducePow, DD, TI, List.take_succ_cons, List.drop_succ_cons]
  refine callK_q dyad_Mul.call (u2) rfl rfl ?_
  simp -implicitDefEqProofs only [go_sem, simprocAttr, -Int.reducePow, DD, TI, List.take_succ_cons, List.drop_succ_cons]
  refine callK_q dyad_Add.call (u3) rfl rfl ?_
  simp -implicitDefEqProofs only [go_sem, simprocAttr, -Int.reducePow, DD, TI, List.take_succ_cons, List.drop_succ_cons]
  refine callK_q gauss_Mul.call (g1) rfl rfl ?_
  simp -implicitDefEqProofs only [go_sem, simprocAttr, -Int.reducePow, DD, TI, List.take_succ_cons, List.drop_succ_cons]
  refine callK_q dyad_Mul.call (u4) rfl rfl ?_
  simp -implicitDefEqProofs only [go_sem, simprocAttr, -Int.reducePow, DD, TI, List.take_succ_cons, List.drop_succ_cons]
  refine callK_q dyad_Add.call (u5) rfl rfl ?_
  simp -implicitDefEqProofs only [go_sem, simprocAttr, -Int.reducePow, DD, TI, List.take_succ_cons, List.drop_succ_cons]
  refine callK_q round_To.call (t1) rfl rfl ?_
  simp -implicitDefEqProofs only [go_sem, simprocAttr, -Int.reducePow, DD, TI, List.take_succ_cons, List.drop_succ_cons]
  refine callK_q disc_with.call (w1) rfl rfl ?_
  simp -implicitDefEqProofs only [go_sem, simprocAttr, -Int.reducePow, DD, TI, List.take_succ_cons, List.drop_succ_cons]
theorem dgrow_s (h : RT a c r B B') (hB : B ≤ 10000) (hB' : B' ≤ 10000) (v : Int) (h1 : -9223372036854775808 ≤ v) (h2 : v ≤ 9223372036854775807) : Sat CT false 42 [a, I64 v] (TI c (rp (rp r * dv v 0))) := by
  refine sat_of disc_Grow.ok (by simp) ?_
  have DD := disc_Grow.dr
  simp only [drP, drPx, drPt, drR, drS, drT, bodyOf, Tryz.f42, Nat.reduceEqDiff, reduceIte, true_and, and_true] at DD
  obtain ⟨n, l, e, m, k, f, o, p, q, rfl, hc, hr⟩ := h.ex
  have v1 := dfar_s hr (by omega)
  have o1 := dofn_sat v h1 h2
  have bv : DB (dv v 0) 64 := DB.raw (L := 64) (E := 0) (by omega) (by decide) (by decide)
  have u1 := dmul_r (RD_D (rp_db hr.db)) (RD_D bv) (by omega) (by omega)
  have w1 := dwith_s hc (RD_D ((rp_db hr.db).mul bv)) (by omega) (by omega)
  simp -implicitDefEqProofs only [go_sem, simprocAttr, -Int.reducePow, Tryz.f42, DD, TI, List.take_succ_cons, List.drop_succ_cons]
  refine callK_q disc_far.call (v1) rfl rfl ?_
  simp -implicitDefEqProofs only [go_sem, simprocAttr, -Int.reducePow, DD, TI, List.take_succ_cons, List.drop_succ_cons]
  refine callK_q dyad_Of.call (o1) rfl rfl ?_
  simp -implicitDefEqProofs only [go_sem, simprocAttr, -Int.reducePow, DD, TI, List.take_succ_cons, List.drop_succ_cons]
  refine callK_q dyad_Mul.call (u1) rfl rfl ?_
  simp -implicitDefEqProofs only [go_sem, simprocAttr, -Int.reducePow, DD, TI, List.take_succ_cons, List.drop_succ_cons]
  refine callK_q disc_with.call (w1) rfl rfl ?_
  simp -implicitDefEqProofs only [go_sem, simprocAttr, -Int.reducePow, DD, TI, List.take_succ_cons, List.drop_succ_cons]
theorem gsame_r (ha : RC a z B) (hb : RC b w C) (hB : B ≤ 19000) (hC : C ≤ 19000) : Sat CT false 102 [a, b] (Bo (decide (z = w))) := by
  refine sat_of gauss_Same.ok (by simp) ?_
  have DD := gauss_Same.dr
  simp only [drP, drPx, drPt, drR, drS, drT, bodyOf, Tryz.f102, Nat.reduceEqDiff, reduceIte, true_and, and_true] at DD
  obtain ⟨n, l, e, m, k, f, rfl, hr, hi⟩ := ha
  obtain ⟨n', l', e', m', k', f', rfl, gr, gi⟩ := hb
  have u1 := dsame_r hr gr hB hC
  have u2 := dsame_r hi gi hB hC
  by_cases h1 : z.re = w.re
  · have e : decide (z = w) = decide (z.im = w.im) := decide_eq_decide.2 ⟨fun h => by rw [h], fun h => Cx.ext' h1 h⟩
    rw [decide_eq_true h1] at u1
    rw [e]
    simp -implicitDefEqProofs only [go_sem, simprocAttr, -Int.reducePow, Tryz.f102, DD, List.take_succ_cons, List.drop_succ_cons]
    refine callK_q dyad_Same.call (u1) rfl rfl ?_
    simp -implicitDefEqProofs only [go_sem, simprocAttr, -Int.reducePow, DD, List.take_succ_cons, List.drop_succ_cons]
    refine callK_q dyad_Same.call (u2) rfl rfl ?_
    simp -implicitDefEqProofs only [go_sem, simprocAttr, -Int.reducePow, DD, List.take_succ_cons, List.drop_succ_cons]
  · rw [decide_eq_false h1] at u1
    rw [decide_eq_false (show ¬ z = w from fun h => h1 (by rw [h]))]
    simp -implicitDefEqProofs only [go_sem, simprocAttr, -Int.reducePow, Tryz.f102, DD, List.take_succ_cons, List.drop_succ_cons]
    refine callK_q dyad_Same.call (u1) rfl rfl ?_
    simp -implicitDefEqProofs only [go_sem, simprocAttr, -Int.reducePow, DD, List.take_succ_cons, List.drop_succ_cons]
theorem dsames_s (h : RT a c r B B') (g : RT b d s C C') (hB : B ≤ 10000) (hC : C ≤ 10000) (hB' : B' ≤ 10000) (hC' : C' ≤ 10000) : Sat CT false 43 [a, b] (Bo (decide (c = d ∧ rp r = rp s))) := by
  refine sat_of disc_Same.ok (by simp) ?_
  have DD := disc_Same.dr
  simp only [drP, drPx, drPt, drR, drS, drT, bodyOf, Tryz.f43, Nat.reduceEqDiff, reduceIte, true_and, and_true] at DD
  obtain ⟨n, l, e, m, k, f, o, p, q, rfl, hc, hr⟩ := h.ex
  obtain ⟨n', l', e', m', k', f', o', p', q', rfl, gc, gr⟩ := g.ex
  have u1 := gsame_r hc gc (by omega) (by omega)
  have v1 := dfar_s hr (by omega)
  have v2 := dfar_s gr (by omega)
  have u2 := dsame_r (RD_D (rp_db hr.db)) (RD_D (rp_db gr.db)) (by omega) (by omega)
  by_cases h1 : c = d
  · have e : decide (c = d ∧ rp r = rp s) = decide (rp r = rp s) := decide_eq_decide.2 ⟨fun h => h.2, fun h => ⟨h1, h⟩⟩
    rw [decide_eq_true h1] at u1
    rw [e]
    simp -implicitDefEqProofs only [go_sem, simprocAttr, -Int.reducePow, Tryz.f43, DD, List.take_succ_cons, List.drop_succ_cons]
    refine callK_q gauss_Same.call (u1) rfl rfl ?_
    simp -implicitDefEqProofs only [go_sem, simprocAttr, -Int.reducePow, DD, List.take_succ_cons, List.drop_succ_cons]
    refine callK_q disc_far.call (v1) rfl rfl ?_
    simp -implicitDefEqProofs only [go_sem, simprocAttr, -Int.reducePow, DD, List.take_succ_cons, List.drop_succ_cons]
    refine callK_q disc_far.call (v2) rfl rfl ?_
    simp -implicitDefEqProofs only [go_sem, simprocAttr, -Int.reducePow, DD, List.take_succ_cons, List.drop_succ_cons]
    refine callK_q dyad_Same.call (u2) rfl rfl ?_
    simp -implicitDefEqProofs only [go_sem, simprocAttr, -Int.reducePow, DD, List.take_succ_cons, List.drop_succ_cons]
  · rw [decide_eq_false h1] at u1
    rw [decide_eq_false (show ¬ (c = d ∧ rp r = rp s) from fun h => h1 h.1)]
    simp -implicitDefEqProofs only [go_sem, simprocAttr, -Int.reducePow, Tryz.f43, DD, List.take_succ_cons, List.drop_succ_cons]
    refine callK_q gauss_Same.call (u1) rfl rfl ?_
    simp -implicitDefEqProofs only [go_sem, simprocAttr, -Int.reducePow, DD, List.take_succ_cons, List.drop_succ_cons]
/-- an interval, a rectangle, as they must be -/
def SI (x y : Dyadic) : AV := .agg [Bo (decide (dnum x < 0)), U32 (lim (dnum x).natAbs), I64 (dexp x), Bo (decide (dnum y < 0)), U32 (lim (dnum y).natAbs), I64 (dexp y)]
def QI (x y z w : Dyadic) : AV := .agg [Bo (decide (dnum x < 0)), U32 (lim (dnum x).natAbs), I64 (dexp x), Bo (decide (dnum y < 0)), U32 (lim (dnum y).natAbs), I64 (dexp y), Bo (decide (dnum z < 0)), U32 (lim (dnum z).natAbs), I64 (dexp z), Bo (decide (dnum w < 0)), U32 (lim (dnum w).natAbs), I64 (dexp w)]
def RS (a : AV) (x y : Dyadic) (B : Nat) : Prop := ∃ n l e m k f, a = .agg [Bo n, U32 l, I64 e, Bo m, U32 k, I64 f] ∧ RD (DA n l e) x B ∧ RD (DA m k f) y B
def RQ (a : AV) (x y z w : Dyadic) (B : Nat) : Prop := ∃ n l e m k f n' l' e' m' k' f', a = .agg [Bo n, U32 l, I64 e, Bo m, U32 k, I64 f, Bo n', U32 l', I64 e', Bo m', U32 k', I64 f'] ∧ RD (DA n l e) x B ∧ RD (DA m k f) y B ∧ RD (DA n' l' e') z B ∧ RD (DA m' k' f') w B
theorem RS_D (hx : DB x B) (hy : DB y B) : RS (SI x y) x y B := ⟨_, _, _, _, _, _, rfl, RD_D hx, RD_D hy⟩
theorem RQ_D {x y z w : Dyadic} (hx : DB x B) (hy : DB y B) (hz : DB z B) (hw : DB w B) : RQ (QI x y z w) x y z w B := ⟨_, _, _, _, _, _, _, _, _, _, _, _, rfl, RD_D hx, RD_D hy, RD_D hz, RD_D hw⟩
theorem RS.db {a : AV} (h : RS a x y B) : DB x B ∧ DB y B := by obtain ⟨_, _, _, _, _, _, _, h1, h2⟩ := h; exact ⟨h1.db, h2.db⟩
/-- the middle of an interval -/
def mid (x y : Dyadic) : Dyadic := (x + y) * dv 1 (-1)
theorem half_b : DB (dv 1 (-1)) 2 := DB.raw (L := 1) (E := 1) (by decide) (by decide) (by decide)
theorem mid_db (hx : DB x B) (hy : DB y B) : DB (mid x y) (B + 3) := (hx.add hy).mul half_b
theorem rhalf_s (h : RS a x y B) (hB : B ≤ 15000) : Sat CT false 156 [a] (DI (mid x y)) := by
  refine sat_of rect_half.ok (by simp) ?_
  have DD := rect_half.dr
  simp only [drP, drPx, drPt, drR, drS, drT, bodyOf, Tryz.f156, Nat.reduceEqDiff, reduceIte, true_and, and_true] at DD
  obtain ⟨n, l, e, m, k, f, rfl, h1, h2⟩ := h
  have u1 := dadd_r h1 h2 (by omega) (by omega)
  have u2 := dscale_k (RD_D (h1.db.add h2.db)) (by omega) (-1) (by decide)
  unfold mid
  simp -implicitDefEqProofs only [go_sem, simprocAttr, -Int.reducePow, Tryz.f156, DD, List.take_succ_cons, List.drop_succ_cons]
  refine callK_q dyad_Add.call (u1) rfl rfl ?_
  simp -implicitDefEqProofs only [go_sem, simprocAttr, -Int.reducePow, DD, List.take_succ_cons, List.drop_succ_cons]
  refine callK_q dyad_Scale.call (u2) rfl rfl ?_
  simp -implicitDefEqProofs only [go_sem, simprocAttr, -Int.reducePow, DD, List.take_succ_cons, List.drop_succ_cons]
theorem rmiddle_s {x y z w : Dyadic} (h : RQ a x y z w B) (hB : B ≤ 15000) : Sat CT false 106 [a] (CI ⟨mid x y, mid z w⟩) := by
  refine sat_of rect_Middle.ok (by simp) ?_
  have DD := rect_Middle.dr
  simp only [drP, drPx, drPt, drR, drS, drT, bodyOf, Tryz.f106, Nat.reduceEqDiff, reduceIte, true_and, and_true] at DD
  obtain ⟨n, l, e, m, k, f, n', l', e', m', k', f', rfl, h1, h2, h3, h4⟩ := h
  have u1 := rhalf_s ⟨n, l, e, m, k, f, rfl, h1, h2⟩ hB
  have u2 := rhalf_s ⟨n', l', e', m', k', f', rfl, h3, h4⟩ hB
  simp -implicitDefEqProofs only [go_sem, simprocAttr, -Int.reducePow, Tryz.f106, DD, List.take_succ_cons, List.drop_succ_cons]
  refine callK_q rect_half.call (u1) rfl rfl ?_
  simp -implicitDefEqProofs only [go_sem, simprocAttr, -Int.reducePow, DD, List.take_succ_cons, List.drop_succ_cons]
  refine callK_q rect_half.call (u2) rfl rfl ?_
  simp -implicitDefEqProofs only [go_sem, simprocAttr, -Int.reducePow, DD, List.take_succ_cons, List.drop_succ_cons]
/-- how far the corner is from the middle -/
def crn (x y z w : Dyadic) : Cx := (⟨dmx x y, dmx z w⟩ : Cx) - ⟨mid x y, mid z w⟩
theorem crn_db {x y z w : Dyadic} (hx : DB x B) (hy : DB y B) (hz : DB z B) (hw : DB w B) : CB (crn x y z w) (B + 4) :=
  ⟨((dmx_db hx hy).mono (by omega)).sub (mid_db hx hy), ((dmx_db hz hw).mono (by omega)).sub (mid_db hz hw)⟩
theorem daround_s {x y z w : Dyadic} (h : RQ a x y z w B) (hB : B ≤ 5280) (p : Int) : Sat CT false 46 [a, I64 p] (TI ⟨mid x y, mid z w⟩ (far (crn x y z w) (heldP p) true)) := by
  refine sat_of disc_Around.ok (by simp) ?_
  have DD := disc_Around.dr
  simp only [drP, drPx, drPt, drR, drS, drT, bodyOf, Tryz.f46, Nat.reduceEqDiff, reduceIte, true_and, and_true] at DD
  have hP1 := (heldP_v p).2.2.1
  have hP2 := (heldP_v p).2.2.2
  have u1 := rmiddle_s h (by omega)
  obtain ⟨n, l, e, m, k, f, n', l', e', m', k', f', rfl, h1, h2, h3, h4⟩ := h
  have k1 := dmax_r h1 h2 (by omega) (by omega)
  have k2 := dmax_r h3 h4 (by omega) (by omega)
  have bm : CB (⟨mid x y, mid z w⟩ : Cx) (B + 3) := ⟨mid_db h1.db h2.db, mid_db h3.db h4.db⟩
  have bx : CB (⟨dmx x y, dmx z w⟩ : Cx) B := ⟨dmx_db h1.db h2.db, dmx_db h3.db h4.db⟩
  have v1 := gsub_r (RC_C bx) (RC_C bm) (by omega) (by omega)
  have bc := crn_db h1.db h2.db h3.db h4.db
  have v2 := gnorm_r (RC_C bc) (by omega)
  have hn := nrm_db bc
  have fb := far_db2 bc hP1 true
  have fn := far_nn (crn x y z w) hP1
  have w1 := dwith_s (RC_C bm) (RD_D fb) (by omega) (by omega)
  rw [rp_id fn] at w1
  by_cases q : dnum (nrm (crn x y z w)) ≤ 0
  · have r1 := qroot_n (RD_D hn) q (by omega) p 1
    rw [show far (crn x y z w) (heldP p) true = 0 from droot_0 q _ _] at w1 ⊢
    rw [DI_0] at w1
    simp -implicitDefEqProofs only [go_sem, simprocAttr, -Int.reducePow, Tryz.f46, DD, QZ, TI, List.take_succ_cons, List.drop_succ_cons]
    refine callK_q rect_Middle.call (u1) rfl rfl ?_
    simp -implicitDefEqProofs only [go_sem, simprocAttr, -Int.reducePow, DD, QZ, TI, List.take_succ_cons, List.drop_succ_cons]
    refine callK_q dyad_Max.call (k1) rfl rfl ?_
    simp -implicitDefEqProofs only [go_sem, simprocAttr, -Int.reducePow, DD, QZ, TI, List.take_succ_cons, List.drop_succ_cons]
    refine callK_q dyad_Max.call (k2) rfl rfl ?_
    simp -implicitDefEqProofs only [go_sem, simprocAttr, -Int.reducePow, DD, QZ, TI, List.take_succ_cons, List.drop_succ_cons]
    refine callK_q gauss_Sub.call (v1) rfl rfl ?_
    simp -implicitDefEqProofs only [go_sem, simprocAttr, -Int.reducePow, DD, QZ, TI, List.take_succ_cons, List.drop_succ_cons]
    refine callK_q gauss_Norm.call (v2) rfl rfl ?_
    simp -implicitDefEqProofs only [go_sem, simprocAttr, -Int.reducePow, DD, QZ, TI, List.take_succ_cons, List.drop_succ_cons]
    refine callK_q quot_Root.call (r1) rfl rfl ?_
    simp -implicitDefEqProofs only [go_sem, simprocAttr, -Int.reducePow, DD, QZ, TI, List.take_succ_cons, List.drop_succ_cons]
    refine callK_q disc_with.call (w1) rfl rfl ?_
    simp -implicitDefEqProofs only [go_sem, simprocAttr, -Int.reducePow, DD, QZ, TI, List.take_succ_cons, List.drop_succ_cons]
  · have r1 := qroot_ok (RD_D hn) (Int.not_le.1 q) (by omega) p 1
    rw [show droot (nrm (crn x y z w)) (heldP p) (decide ((1 : Int) = 1)) = far (crn x y z w) (heldP p) true from rfl] at r1
    simp -implicitDefEqProofs only [go_sem, simprocAttr, -Int.reducePow, Tryz.f46, DD, TI, List.take_succ_cons, List.drop_succ_cons]
    refine callK_q rect_Middle.call (u1) rfl rfl ?_
    simp -implicitDefEqProofs only [go_sem, simprocAttr, -Int.reducePow, DD, TI, List.take_succ_cons, List.drop_succ_cons]
    refine callK_q dyad_Max.call (k1) rfl rfl ?_
    simp -implicitDefEqProofs only [go_sem, simprocAttr, -Int.reducePow, DD, TI, List.take_succ_cons, List.drop_succ_cons]
    refine callK_q dyad_Max.call (k2) rfl rfl ?_
    simp -implicitDefEqProofs only [go_sem, simprocAttr, -Int.reducePow, DD, TI, List.take_succ_cons, List.drop_succ_cons]
    refine callK_q gauss_Sub.call (v1) rfl rfl ?_
    simp -implicitDefEqProofs only [go_sem, simprocAttr, -Int.reducePow, DD, TI, List.take_succ_cons, List.drop_succ_cons]
    refine callK_q gauss_Norm.call (v2) rfl rfl ?_
    simp -implicitDefEqProofs only [go_sem, simprocAttr, -Int.reducePow, DD, TI, List.take_succ_cons, List.drop_succ_cons]
    refine callK_q quot_Root.call (r1) rfl rfl ?_
    simp -implicitDefEqProofs only [go_sem, simprocAttr, -Int.reducePow, DD, TI, List.take_succ_cons, List.drop_succ_cons]
    refine callK_q disc_with.call (w1) rfl rfl ?_
    simp -implicitDefEqProofs only [go_sem, simprocAttr, -Int.reducePow, DD, TI, List.take_succ_cons, List.drop_succ_cons]
theorem dinside_s (h : RT a c r B B') (hB : B ≤ 10000) (hB' : B' ≤ 10000) : Sat CT false 49 [a] (QI (c.re - rp r) (c.re + rp r) (c.im - rp r) (c.im + rp r)) := by
  refine sat_of disc_Inside.ok (by simp) ?_
  have DD := disc_Inside.dr
  simp only [drP, drPx, drPt, drR, drS, drT, bodyOf, Tryz.f49, Nat.reduceEqDiff, reduceIte, true_and, and_true] at DD
  obtain ⟨n, l, e, m, k, f, o, p, q, rfl, h1, h2, hr⟩ := h
  have v1 := dfar_s hr (by omega)
  have hb := rp_db hr.db
  have u1 := dsub_r h1 (RD_D hb) (by omega) (by omega)
  have u2 := dadd_r h1 (RD_D hb) (by omega) (by omega)
  have u3 := dsub_r h2 (RD_D hb) (by omega) (by omega)
  have u4 := dadd_r h2 (RD_D hb) (by omega) (by omega)
  simp -implicitDefEqProofs only [go_sem, simprocAttr, -Int.reducePow, Tryz.f49, DD, QI, List.take_succ_cons, List.drop_succ_cons]
  refine callK_q disc_far.call (v1) rfl rfl ?_
  simp -implicitDefEqProofs only [go_sem, simprocAttr, -Int.reducePow, DD, QI, List.take_succ_cons, List.drop_succ_cons]
  refine callK_q dyad_Sub.call (u1) rfl rfl ?_
  simp -implicitDefEqProofs only [go_sem, simprocAttr, -Int.reducePow, DD, QI, List.take_succ_cons, List.drop_succ_cons]
  refine callK_q dyad_Add.call (u2) rfl rfl ?_
  simp -implicitDefEqProofs only [go_sem, simprocAttr, -Int.reducePow, DD, QI, List.take_succ_cons, List.drop_succ_cons]
  refine callK_q dyad_Sub.call (u3) rfl rfl ?_
  simp -implicitDefEqProofs only [go_sem, simprocAttr, -Int.reducePow, DD, QI, List.take_succ_cons, List.drop_succ_cons]
  refine callK_q dyad_Add.call (u4) rfl rfl ?_
  simp -implicitDefEqProofs only [go_sem, simprocAttr, -Int.reducePow, DD, QI, List.take_succ_cons, List.drop_succ_cons]
end Go.Ab
