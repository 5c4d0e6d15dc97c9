/- Contracts of this seat's functions (of each call: what it answers), walked over the abstract machine, and the laws of numbers that they want. Conditions: those that each theorem states. -/
import Derived.Test.YtikhbokeaikcpaaGreatDoorFL3
import Derived.Test.YtikhbokeaikcpaaGreatDoorS1
import Derived.Test.YtikhbokeaikcpaaGreatDoorE1
set_option linter.unusedVariables false
set_option maxRecDepth 20000
set_option linter.unusedSimpArgs false
set_option linter.unusedSectionVars false
namespace Go.Ab
open Go.Proofs
open Cx (zero one)
attribute [-go_sem] appF newsF
variable {a b : AV} {x y r s t : Dyadic} {z w c d e : Cx} {B C n m : Nat}
/-! points: what is known of them, what comes in -/
theorem CB.sub' (h : CB z B) (g : CB w C) : CB (z - w) (max B C + 1) := ⟨(h.1.mono (Nat.le_max_left B C)).sub (g.1.mono (Nat.le_max_right B C)), (h.2.mono (Nat.le_max_left B C)).sub (g.2.mono (Nat.le_max_right B C))⟩
theorem DB.sub' (h : DB x B) (g : DB y C) : DB (x - y) (max B C + 1) := (h.mono (Nat.le_max_left B C)).sub (g.mono (Nat.le_max_right B C))
theorem DB.add' (h : DB x B) (g : DB y C) : DB (x + y) (max B C + 1) := (h.mono (Nat.le_max_left B C)).add (g.mono (Nat.le_max_right B C))
theorem CB.add' (h : CB z B) (g : CB w C) : CB (z + w) (max B C + 1) := ⟨DB.add' h.1 g.1, DB.add' h.2 g.2⟩
def zI (a b : Int) : Cx := ⟨dv a 0, dv b 0⟩
theorem dvm0 (a b : Int) : dv a 0 * dv b 0 = dv (a * b) 0 := by rw [dv_mul, Int.add_zero]
theorem zI_mul (a b c d : Int) : zI a b * zI c d = zI (a * c - b * d) (a * d + b * c) := Cx.ext' (by show dv a 0 * dv c 0 - dv b 0 * dv d 0 = _; rw [dvm0, dvm0, dv_sub]; rfl) (by show dv a 0 * dv d 0 + dv b 0 * dv c 0 = _; rw [dvm0, dvm0, dv_add]; rfl)
theorem dscale_k (ha : RD a x B) (hB : B ≤ 20000) (k : Int) (hk : k.natAbs ≤ 20000) : Sat CT false 76 [a, I64 k] (DI (x * dv 1 k)) := by
  refine sat_of dyad_Scale.ok (by simp) ?_
  have DD := dyad_Scale.dr
  simp only [drP, drPx, drPt, drR, drS, drT, bodyOf, Tryz.f76, Nat.reduceEqDiff, reduceIte, true_and, and_true] at DD
  obtain ⟨n, l, e, rfl, hl, rfl, hv, hL, he, hdb⟩ := ha
  have q1 := kept_sat e (by omega)
  have q2 := dheld_sat k hk
  have c1 : IntKind.i64.wrap (e + k) = e + k := wrap_id (by omega)
  have q3 := raw_sat n l (e + k) hl (by omega) (pow2_lt hv (by omega)) (by omega)
  rw [show dv (iv n l) (e + k) = dv (iv n l) e * dv 1 k by rw [dv_mul, Int.mul_one]] at q3
  simp -implicitDefEqProofs only [go_sem, simprocAttr, -Int.reducePow, Tryz.f76, DD, c1, List.take_succ_cons, List.drop_succ_cons]
  refine callK_q dyad_kept.call (q1) rfl rfl ?_
  simp -implicitDefEqProofs only [go_sem, simprocAttr, -Int.reducePow, DD, c1, List.take_succ_cons, List.drop_succ_cons]
  refine callK_q dyad_held.call (q2) rfl rfl ?_
  simp -implicitDefEqProofs only [go_sem, simprocAttr, -Int.reducePow, DD, c1, List.take_succ_cons, List.drop_succ_cons]
  refine callK_q dyad_Raw.call (q3) rfl rfl ?_
  simp -implicitDefEqProofs only [go_sem, simprocAttr, -Int.reducePow, DD, c1, List.take_succ_cons, List.drop_succ_cons]
theorem gsame_r (ha : RC a z B) (hb : RC b w C) (hB : B ≤ 19000) (hC : C ≤ 19000) : Sat CT false 36 [a, b] (Bo (decide (z = w))) := by
  refine sat_of gauss_Same.ok (by simp) ?_
  have DD := gauss_Same.dr
  simp only [drP, drPx, drPt, drR, drS, drT, bodyOf, Tryz.f36, Nat.reduceEqDiff, reduceIte, true_and, and_true] at DD
  obtain ⟨n, l, e, m, k, f, rfl, hr, hi⟩ := ha
  obtain ⟨n', l', e', m', k', f', rfl, gr, gi⟩ := hb
  have u1 := dsame_r hr gr hB hC
  have u2 := dsame_r hi gi hB hC
  by_cases h1 : z.re = w.re
  · have e : decide (z = w) = decide (z.im = w.im) := decide_eq_decide.2 ⟨fun h => by rw [h], fun h => Cx.ext' h1 h⟩
    rw [decide_eq_true h1] at u1
    rw [e]
    simp -implicitDefEqProofs only [go_sem, simprocAttr, -Int.reducePow, Tryz.f36, DD, List.take_succ_cons, List.drop_succ_cons]
    refine callK_q dyad_Same.call (u1) rfl rfl ?_
    simp -implicitDefEqProofs only [go_sem, simprocAttr, -Int.reducePow, DD, List.take_succ_cons, List.drop_succ_cons]
    refine callK_q dyad_Same.call (u2) rfl rfl ?_
    simp -implicitDefEqProofs only [go_sem, simprocAttr, -Int.reducePow, DD, List.take_succ_cons, List.drop_succ_cons]
  · rw [decide_eq_false h1] at u1
    rw [decide_eq_false (show ¬ z = w from fun h => h1 (by rw [h]))]
    simp -implicitDefEqProofs only [go_sem, simprocAttr, -Int.reducePow, Tryz.f36, DD, List.take_succ_cons, List.drop_succ_cons]
    refine callK_q dyad_Same.call (u1) rfl rfl ?_
    simp -implicitDefEqProofs only [go_sem, simprocAttr, -Int.reducePow, DD, List.take_succ_cons, List.drop_succ_cons]
abbrev few1 (l : List Nat) (e : Int) : Prop := l.length ≤ 10 ∧ -1000 ≤ e ∧ e ≤ 1000
theorem few8_s (n : Bool) (l : List Nat) (e : Int) : Sat CT false 9 [DA n l e] (Bo (decide (few1 l e))) := by
  refine sat_of annuluslaw8_few.ok (by simp) ?_
  have DD := annuluslaw8_few.dr
  simp only [drP, drPx, drPt, drR, drS, drT, bodyOf, Tryz.f9, Nat.reduceEqDiff, reduceIte, true_and, and_true] at DD
  by_cases h1 : (l.length : Int) ≤ 10
  · by_cases h2 : -1000 ≤ e
    · by_cases h3 : e ≤ 1000
      · rw [decide_eq_true ⟨by omega, h2, h3⟩]
        simp -implicitDefEqProofs only [go_sem, simprocAttr, -Int.reducePow, Tryz.f9, DD, h1, h2, h3, ge_iff_le, List.take_succ_cons, List.drop_succ_cons]
      · rw [decide_eq_false (fun q => h3 q.2.2)]
        simp -implicitDefEqProofs only [go_sem, simprocAttr, -Int.reducePow, Tryz.f9, DD, h1, h2, h3, ge_iff_le, List.take_succ_cons, List.drop_succ_cons]
    · rw [decide_eq_false (fun q => h2 q.2.1)]
      simp -implicitDefEqProofs only [go_sem, simprocAttr, -Int.reducePow, Tryz.f9, DD, h1, h2, ge_iff_le, List.take_succ_cons, List.drop_succ_cons]
  · rw [decide_eq_false (fun q => h1 (by omega))]
    simp -implicitDefEqProofs only [go_sem, simprocAttr, -Int.reducePow, Tryz.f9, DD, h1, ge_iff_le, List.take_succ_cons, List.drop_succ_cons]
abbrev fewR (r : Raw) : Prop := few1 r.l r.e ∧ few1 r.k r.f
theorem and_dec {p q : Prop} [Decidable p] [Decidable q] (h : p) : decide (p ∧ q) = decide q := decide_eq_decide.2 ⟨fun g => g.2, fun g => ⟨h, g⟩⟩
theorem and_dec0 {p q : Prop} [Decidable p] [Decidable q] (h : ¬ p) : decide (p ∧ q) = false := decide_eq_false (fun g => h g.1)
theorem fewC_s (n : Bool) (l : List Nat) (e : Int) (m : Bool) (k : List Nat) (f : Int) : Sat CT false 8 [.agg [Bo n, U32 l, I64 e, Bo m, U32 k, I64 f]] (Bo (decide (few1 l e ∧ few1 k f))) := by
  refine sat_of annuluslaw8_fewCplx.ok (by simp) ?_
  have DD := annuluslaw8_fewCplx.dr
  simp only [drP, drPx, drPt, drR, drS, drT, bodyOf, Tryz.f8, Nat.reduceEqDiff, reduceIte, true_and, and_true] at DD
  have u1 := few8_s n l e
  have u2 := few8_s m k f
  by_cases h1 : few1 l e
  · rw [decide_eq_true h1] at u1
    rw [and_dec h1]
    simp -implicitDefEqProofs only [go_sem, simprocAttr, -Int.reducePow, Tryz.f8, DD, List.take_succ_cons, List.drop_succ_cons]
    refine callK_q annuluslaw8_few.call (u1) rfl rfl ?_
    simp -implicitDefEqProofs only [go_sem, simprocAttr, -Int.reducePow, DD, List.take_succ_cons, List.drop_succ_cons]
    refine callK_q annuluslaw8_few.call (u2) rfl rfl ?_
    simp -implicitDefEqProofs only [go_sem, simprocAttr, -Int.reducePow, DD, List.take_succ_cons, List.drop_succ_cons]
  · rw [decide_eq_false h1] at u1
    rw [and_dec0 h1]
    simp -implicitDefEqProofs only [go_sem, simprocAttr, -Int.reducePow, Tryz.f8, DD, List.take_succ_cons, List.drop_succ_cons]
    refine callK_q annuluslaw8_few.call (u1) rfl rfl ?_
    simp -implicitDefEqProofs only [go_sem, simprocAttr, -Int.reducePow, DD, List.take_succ_cons, List.drop_succ_cons]
theorem rd10 {n : Bool} {l : List Nat} {e : Int} (hl : Lm l) (h : few1 l e) : RD (DA n l e) (dv (iv n l) e) 1320 := by
  obtain ⟨h1, h2, h3⟩ := h
  have hv : Lt2 (nv l) 320 := nv_Lt2 hl h1
  have ha : (iv n l).natAbs = nv l := abs_iv n l
  exact ⟨n, l, e, rfl, hl, rfl, hv.mono (by decide), by omega, by omega, DB.rawL (L := 320) (E := 1000) (by rw [ha]; exact hv) (by omega) (by decide)⟩
theorem Raw.rc10 {r : Raw} (h : r.ok) (hs : fewR r) : RC (.agg r.cells) r.z 1320 := ⟨_, _, _, _, _, _, rfl, rd10 h.1 hs.1, rd10 h.2.1 hs.2⟩

/-- the point on the other side; powers -/
def cnj (z : Cx) : Cx := ⟨z.re, -z.im⟩
def zpw (z : Cx) : Nat → Cx
  | 0 => zI 1 0
  | n + 1 => zpw z n * z
theorem CB.cnj (h : CB z B) : CB (Go.Ab.cnj z) B := ⟨h.1, h.2.neg⟩
theorem gconj_r (ha : RC a z B) (hB : B ≤ 20000) : Sat CT false 24 [a] (CI (cnj z)) := by
  refine sat_of gauss_Conj.ok (by simp) ?_
  have DD := gauss_Conj.dr
  simp only [drP, drPx, drPt, drR, drS, drT, bodyOf, Tryz.f24, Nat.reduceEqDiff, reduceIte, true_and, and_true] at DD
  obtain ⟨n, l, e, m, k, f, rfl, hr, hi⟩ := ha
  have u1 := dscale0_r hr (by omega)
  have u2 := dneg_r hi (by omega)
  simp -implicitDefEqProofs only [go_sem, simprocAttr, -Int.reducePow, Tryz.f24, DD, List.take_succ_cons, List.drop_succ_cons]
  refine callK_q dyad_Scale.call (u1) rfl rfl ?_
  simp -implicitDefEqProofs only [go_sem, simprocAttr, -Int.reducePow, DD, List.take_succ_cons, List.drop_succ_cons]
  refine callK_q dyad_Neg.call (u2) rfl rfl ?_
  simp -implicitDefEqProofs only [go_sem, simprocAttr, -Int.reducePow, DD, List.take_succ_cons, List.drop_succ_cons]
  rfl
theorem zI_db1 {a b : Int} (h : a.natAbs < 2 ^ 64) (g : b.natAbs < 2 ^ 64) : CB (zI a b) 64 := ⟨DB.raw (L := 64) (E := 0) h (by decide) (by decide), DB.raw (L := 64) (E := 0) g (by decide) (by decide)⟩
theorem zpw_cb (h : CB z B) : ∀ n, CB (zpw z n) (64 + n * (B + 1))
  | 0 => (zI_db1 (by decide) (by decide)).mono (by omega)
  | n + 1 => by
    have h1 := (zpw_cb h n).mul h
    have e : (n + 1) * (B + 1) = n * (B + 1) + (B + 1) := Nat.succ_mul ..
    exact ⟨h1.1.mono (by omega), h1.2.mono (by omega)⟩
set_option maxHeartbeats 1000000 in
theorem gpow_r (ha : RC a z B) (hB : B ≤ 1400) (k : Int) (hk : k ≤ 8) : Sat CT false 32 [a, I64 k] (CI (zpw z k.toNat)) := by
  refine sat_of gauss_Pow.ok (by simp) ?_
  have DD := gauss_Pow.dr
  simp only [drP, drPx, drPt, drR, drS, drT, bodyOf, Tryz.f32, Nat.reduceEqDiff, reduceIte, true_and, and_true] at DD
  have ha0 := ha
  have hzb := ha.cb
  have p0 := pld_RC ha
  obtain ⟨s, l, e, t, kk, gg, rfl, _⟩ := ha
  have o1 : Sat CT false 14 [I64 1, I64 0] (CI (zpw z 0)) := gof_sat 1 0 (by decide) (by decide) (by decide) (by decide)
  obtain ⟨K, hK⟩ : ∃ K : Nat, k.toNat = K := ⟨_, rfl⟩
  rw [hK]
  have hmx : min (max k 0) 64 = (K : Int) := by omega
  have hK8 : K ≤ 8 := by omega
  have mu := fun i (hi : i < K) => gmul_r (RC_C (zpw_cb hzb i)) ha0 (by have := Nat.mul_le_mul (show i ≤ 7 by omega) (show B + 1 ≤ 1401 by omega); omega)
  simp -implicitDefEqProofs only [go_sem, simprocAttr, -Int.reducePow, Tryz.f32, DD, x_app, x_ga0, x_gas, x_gan, Int.cast_ofNat_Int, eq_self, Int.zero_lt_one, Bool.not_false, Bool.not_true, beq_self_eq_true]
  refine callK_pl gauss_Of.call (o1) (pl2 pld_int pld_int) ?_
  simp -implicitDefEqProofs only [go_sem, simprocAttr, -Int.reducePow, DD, x_app, x_ga0, x_gas, x_gan, Int.cast_ofNat_Int, eq_self, Int.zero_lt_one, Bool.not_false, Bool.not_true, beq_self_eq_true, hmx]
  refine loop_of aW0_mono (fun q σ => ∃ sl i, σ = ⟨sl, [⟨[Bo s, U32 l, I64 e, Bo t, U32 kk, I64 gg], true, true⟩, ⟨zc6, true, true⟩, ⟨CIc (zpw z i), true, true⟩]⟩ ∧ q = K - i ∧ i ≤ K ∧ look sl 2 = .ptr 0 0 ∧ look sl 4 = .ptr 1 0 ∧ look sl 5 = .ptr 2 0 ∧ look sl 9 = I64 (K : Nat) ∧ look sl 10 = I64 (i : Nat)) ?_ (n := K)
    ⟨_, 0, rfl, rfl, Nat.zero_le _, by simp [x_look], by simp [x_look], by simp [x_look], by simp [x_look], by simp [x_look]⟩
  rintro q _ ⟨sl, i, rfl, rfl, hi, k2, k4, k5, k9, k10⟩
  by_cases hid : i = K
  · subst hid
    simp -implicitDefEqProofs only [go_sem, simprocAttr, -Int.reducePow, DD, x_app, x_ga0, x_gas, x_gan, Int.cast_ofNat_Int, eq_self, Int.zero_lt_one, Bool.not_false, Bool.not_true, beq_self_eq_true, WI, IA, DI, DA, CI, k2, k4, k5, k9, k10, Int.lt_irrefl, zc6, CIc]
  · have c1 : (i : Int) < (K : Int) := by omega
    have c3 : IntKind.i64.wrap ((i : Int) + 1) = ((i + 1 : Nat) : Int) := by rw [wrap_i64 (by omega) (by omega)]; omega
    have q1 := mu i (by omega)
    have q1 : Sat CT false 20 [CI (zpw z i), .agg [Bo s, U32 l, I64 e, Bo t, U32 kk, I64 gg]] (CI (zpw z (i + 1))) := q1
    simp -implicitDefEqProofs only [go_sem, simprocAttr, -Int.reducePow, DD, x_app, x_ga0, x_gas, x_gan, Int.cast_ofNat_Int, eq_self, Int.zero_lt_one, Bool.not_false, Bool.not_true, beq_self_eq_true, k2, k4, k5, k9, k10, c1, c3]
    refine callK_pl gauss_Mul.call (q1) (pl2 (pld_CI _) p0) ?_
    simp -implicitDefEqProofs only [go_sem, simprocAttr, -Int.reducePow, DD, x_app, x_ga0, x_gas, x_gan, Int.cast_ofNat_Int, eq_self, Int.zero_lt_one, Bool.not_false, Bool.not_true, beq_self_eq_true, k2, k4, k5, k9, k10, c1, c3]
    exact ⟨K - (i + 1), by omega, _, i + 1, rfl, rfl, by omega, by simp [x_look, k2], by simp [x_look, k4], by simp [x_look, k5], by simp [x_look, k9], by simp [x_look]⟩
theorem gscale_k (ha : RC a z B) (hB : B ≤ 20000) (k : Int) (hk : k.natAbs ≤ 20000) : Sat CT false 28 [a, I64 k] (CI ⟨z.re * dv 1 k, z.im * dv 1 k⟩) := by
  refine sat_of gauss_Scale.ok (by simp) ?_
  have DD := gauss_Scale.dr
  simp only [drP, drPx, drPt, drR, drS, drT, bodyOf, Tryz.f28, Nat.reduceEqDiff, reduceIte, true_and, and_true] at DD
  obtain ⟨n, l, e, m, kk, f, rfl, hr, hi⟩ := ha
  have u1 := dscale_k hr hB k hk
  have u2 := dscale_k hi hB k hk
  simp -implicitDefEqProofs only [go_sem, simprocAttr, -Int.reducePow, Tryz.f28, DD, List.take_succ_cons, List.drop_succ_cons]
  refine callK_q dyad_Scale.call (u1) rfl rfl ?_
  simp -implicitDefEqProofs only [go_sem, simprocAttr, -Int.reducePow, DD, List.take_succ_cons, List.drop_succ_cons]
  refine callK_q dyad_Scale.call (u2) rfl rfl ?_
  simp -implicitDefEqProofs only [go_sem, simprocAttr, -Int.reducePow, DD, List.take_succ_cons, List.drop_succ_cons]
end Go.Ab
