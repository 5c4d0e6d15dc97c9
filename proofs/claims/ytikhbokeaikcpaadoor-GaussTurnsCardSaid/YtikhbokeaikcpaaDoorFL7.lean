/- Contracts of this seat's functions (of each call: what it answers), walked over the abstract machine, and the laws of numbers that they want. Conditions: those that each theorem states. -/
import Derived.Test.YtikhbokeaikcpaaDoorFL6
set_option linter.unusedVariables false
set_option maxRecDepth 20000
set_option linter.unusedSimpArgs false
set_option linter.unusedSectionVars false
namespace Go.Ab
open Go.Proofs
open Cx (zero one)
attribute [-go_sem] appF newsF
variable {a b : AV} {x y r s t : Dyadic} {z w c d e : Cx} {B C n m : Nat}
/-! turns of points -/
def ytn (x : Cx) : Nat → Cx
  | 0 => x
  | k + 1 => ytn x k * zI 0 1
theorem d10 : dv 0 0 = 0 ∧ dv 1 0 = 1 := ⟨rfl, rfl⟩
theorem ytn_1 (z : Cx) : (z * zI 0 1).re = -z.im ∧ (z * zI 0 1).im = z.re := by
  refine ⟨?_, ?_⟩
  · show z.re * dv 0 0 - z.im * dv 1 0 = _; rw [d10.1, d10.2]; grind
  · show z.re * dv 1 0 + z.im * dv 0 0 = _; rw [d10.1, d10.2]; grind
theorem ytn_4 (x : Cx) : ytn x 4 = x := by
  have h : ∀ z : Cx, (z * zI 0 1) * zI 0 1 = -z := fun z => Cx.ext' (by rw [(ytn_1 _).1, (ytn_1 _).2]; rfl) (by rw [(ytn_1 _).2, (ytn_1 _).1]; rfl)
  show ((x * zI 0 1) * zI 0 1) * zI 0 1 * zI 0 1 = x
  rw [h, h]
  exact Cx.ext' (by show - -x.re = x.re; grind) (by show - -x.im = x.im; grind)
theorem ytn_n (z : Cx) : nrm (z * zI 0 1) = nrm z := by
  show (z * zI 0 1).re * (z * zI 0 1).re + (z * zI 0 1).im * (z * zI 0 1).im = z.re * z.re + z.im * z.im
  rw [(ytn_1 z).1, (ytn_1 z).2]; grind
theorem ytn_cb (h : CB z 1320) : ∀ k, CB (ytn z k) (1320 + k * 70)
  | 0 => h.mono (by omega)
  | k + 1 => by
    have h1 := (ytn_cb h k).mul (zI_db1 (a := 0) (b := 1) (by decide) (by decide))
    exact ⟨h1.1.mono (by omega), h1.2.mono (by omega)⟩
theorem cx_assoc (z w c : Cx) : z * (w * c) = z * w * c := Cx.ext' (by show z.re * (w.re * c.re - w.im * c.im) - z.im * (w.re * c.im + w.im * c.re) = (z.re * w.re - z.im * w.im) * c.re - (z.re * w.im + z.im * w.re) * c.im; grind) (by show z.re * (w.re * c.im + w.im * c.re) + z.im * (w.re * c.re - w.im * c.im) = (z.re * w.re - z.im * w.im) * c.im + (z.re * w.im + z.im * w.re) * c.re; grind)
theorem zpw_add (z : Cx) (a : Nat) : ∀ b, zpw z a * zpw z b = zpw z (a + b)
  | 0 => by
    show zpw z a * zI 1 0 = zpw z a
    exact Cx.ext' (by show (zpw z a).re * dv 1 0 - (zpw z a).im * dv 0 0 = _; rw [d10.1, d10.2]; grind) (by show (zpw z a).re * dv 0 0 + (zpw z a).im * dv 1 0 = _; rw [d10.1, d10.2]; grind)
  | b + 1 => by
    show zpw z a * (zpw z b * z) = zpw z (a + b) * z
    rw [← zpw_add z a b]
    exact cx_assoc _ _ _
theorem sc3 (x : Dyadic) : x * dv 1 3 = x * dv 8 0 := by rw [show dv 8 0 = dv 1 3 from (dv_shift 1 0 3)]
theorem u8_4 (q : Nat) (hq : q < 256) : ((q : Int)).tmod 4 = ((q % 4 : Nat) : Int) ∧ IntKind.u8.wrap (((q : Int)).tmod 4) = ((q % 4 : Nat) : Int) ∧ IntKind.i64.wrap (((q : Int)).tmod 4) = ((q % 4 : Nat) : Int) ∧ IntKind.i64.wrap ((q % 4 : Nat) : Int) = ((q % 4 : Nat) : Int) := by
  have e1 : ((q : Int)).tmod 4 = ((q % 4 : Nat) : Int) := by rw [Int.natCast_emod]; exact Int.tmod_eq_emod_of_nonneg (by omega)
  have := Nat.mod_lt q (show 0 < 4 by decide)
  refine ⟨e1, ?_, ?_, ?_⟩
  · rw [e1]; unfold IntKind.wrap; simp [IntKind.bits, IntKind.signed]; omega
  · rw [e1, wrap_i64 (by omega) (by omega)]
  · rw [wrap_i64 (by omega) (by omega)]
section
attribute [local go_sem] List.cons_append List.length_cons List.set_cons_succ List.getD_cons_succ List.getD_cons_zero List.set_cons_zero x_hset x_hget
set_option maxHeartbeats 4000000 in
theorem gaussTurns_sat (X : Raw) (hX : X.ok) (m : Nat) (hm : m < 256) (n : Nat) (hn : n < 256) : Sat CT false 6 [.agg X.cells, .v (.int .u8 (m : Nat)), .v (.int .u8 (n : Nat))] (Bo true) := by
  refine sat_of annuluslaw8_GaussTurns.ok (by simp) ?_
  have DD := annuluslaw8_GaussTurns.dr
  simp only [drP, drPx, drPt, drR, drS, drT, bodyOf, Tryd.f6, Nat.reduceEqDiff, reduceIte, true_and, and_true] at DD
  have k0 := known8_s
  obtain ⟨xn, xl, xe, xm, xk, xf⟩ := X
  have f1 := fewC_s xn xl xe xm xk xf
  simp only [Raw.cells] at *
  by_cases q1 : few1 xl xe ∧ few1 xk xf
  · rw [decide_eq_true q1] at f1
    have rx := Raw.rc10 hX q1
    simp only [Raw.cells] at rx
    generalize Raw.z ⟨xn, xl, xe, xm, xk, xf⟩ = x at *
    have px := pld_RC rx
    have cx := rx.cb
    have o1 : Sat CT false 17 [I64 0, I64 1] (CI (zI 0 1)) := gof_sat 0 1 (by decide) (by decide) (by decide) (by decide)
    have cI : CB (zI 0 1) 64 := zI_db1 (by decide) (by decide)
    obtain ⟨a0, a1, a2, a3⟩ := u8_4 m hm
    obtain ⟨b0, b1, b2, b3⟩ := u8_4 n hn
    have am := Nat.mod_lt m (show 0 < 4 by decide)
    have bm := Nat.mod_lt n (show 0 < 4 by decide)
    generalize m % 4 = A at *
    generalize n % 4 = D at *
    have w3 : IntKind.i64.wrap ((A : Int) + (D : Int)) = ((A + D : Nat) : Int) := by rw [wrap_i64 (by omega) (by omega)]; omega
    have p1 := gpow_r rx (by decide) (A : Int) (by omega)
    have p2 := gpow_r rx (by decide) (D : Int) (by omega)
    have p3 := gpow_r rx (by decide) ((A + D : Nat) : Int) (by omega)
    rw [Int.toNat_natCast] at p1 p2 p3
    have c1 := (zpw_cb cx A).mono (C := 4100) (by have := Nat.mul_le_mul_right 1321 (show A ≤ 3 by omega); omega)
    have c2 := (zpw_cb cx D).mono (C := 4100) (by have := Nat.mul_le_mul_right 1321 (show D ≤ 3 by omega); omega)
    have c3 := (zpw_cb cx (A + D)).mono (C := 8100) (by have := Nat.mul_le_mul_right 1321 (show A + D ≤ 6 by omega); omega)
    have p4 := gmul_r (RC_C c1) (RC_C c2) (by decide)
    have p5 := gsame_r (RC_C (c1.mul c2)) (RC_C c3) (by decide) (by decide)
    rw [decT (zpw_add x A D)] at p5
    have s1 := gscale_k rx (by decide) 3 (by decide)
    have s2 := rof4_sat 8 (by decide) (by decide)
    have b8 : DB (dv 8 0) 200 := db1 (v := 8) (e := 0) (by decide) (by decide) (by decide)
    have s3 := gtimes_r rx (RD_D b8) (by decide)
    rw [sc3, sc3] at s1
    have bs : CB ⟨x.re * dv 8 0, x.im * dv 8 0⟩ (1320 + 200) := ⟨cx.1.mul b8, cx.2.mul b8⟩
    have s4 := gsame_r (RC_C bs) (RC_C bs) (by decide) (by decide)
    rw [decT rfl] at s4
    simp -implicitDefEqProofs only [go_sem, simprocAttr, -Int.reducePow, Tryd.f6, DD, List.take_succ_cons, List.drop_succ_cons]
    refine callK_q annuluslaw8_known.call (k0) rfl rfl ?_
    simp -implicitDefEqProofs only [go_sem, simprocAttr, -Int.reducePow, DD, List.take_succ_cons, List.drop_succ_cons]
    refine callK_q annuluslaw8_fewCplx.call (f1) rfl rfl ?_
    simp -implicitDefEqProofs only [go_sem, simprocAttr, -Int.reducePow, DD, List.take_succ_cons, List.drop_succ_cons]
    refine callK_q gauss_Of.call (o1) rfl rfl ?_
    simp -implicitDefEqProofs only [go_sem, simprocAttr, -Int.reducePow, DD, List.take_succ_cons, List.drop_succ_cons]
    refine loop_of aW0_mono (fun q σ => ∃ sl T k yn yl ye ym yk yf, σ = ⟨sl, ⟨[Bo xn, U32 xl, I64 xe, Bo xm, U32 xk, I64 xf], true, true⟩ :: ⟨CIc (zI 0 1), true, true⟩ :: ⟨[Bo yn, U32 yl, I64 ye, Bo ym, U32 yk, I64 yf], true, true⟩ :: T⟩ ∧ q = 4 - k ∧ k ≤ 4 ∧ look sl 1 = .v (.int .u8 (m : Nat)) ∧ look sl 2 = .v (.int .u8 (n : Nat)) ∧ look sl 3 = .ptr 0 0 ∧ look sl 7 = .ptr 1 0 ∧ look sl 8 = .ptr 2 0 ∧ look sl 9 = I64 (k : Nat) ∧ RC (.agg [Bo yn, U32 yl, I64 ye, Bo ym, U32 yk, I64 yf]) (ytn x k) 1700) ?_ (n := 4)
      ⟨_, [], 0, _, _, _, _, _, _, rfl, rfl, Nat.zero_le _, by simp [x_look], by simp [x_look], by simp [x_look], by simp [x_look], by simp [x_look], by simp [x_look], rx.mono (by decide)⟩
    rintro q _ ⟨sl, T, k, yn, yl, ye, ym, yk, yf, rfl, rfl, hk, k1, k2, k3, k7, k8, k9, ry⟩
    by_cases hid : k = 4
    · subst hid
      have cc : ¬ ((4 : Nat) : Int) < 4 := by omega
      rw [ytn_4] at ry
      have t1 := gsame_r ry rx (by decide) (by decide)
      rw [decT rfl] at t1
      simp -implicitDefEqProofs only [go_sem, simprocAttr, -Int.reducePow, DD, List.take_succ_cons, List.drop_succ_cons, k1, k2, k3, k7, k8, k9, cc, a0, a1, a2, a3, b0, b1, b2, b3]
      refine callK_q gauss_Same.call (t1) rfl rfl ?_
      simp -implicitDefEqProofs only [go_sem, simprocAttr, -Int.reducePow, DD, List.take_succ_cons, List.drop_succ_cons, k1, k2, k3, k7, k8, k9, w3]
      refine callK_q gauss_Pow.call (p1) rfl rfl ?_
      simp -implicitDefEqProofs only [go_sem, simprocAttr, -Int.reducePow, DD, List.take_succ_cons, List.drop_succ_cons, k1, k2, k3, k7, k8, k9, w3]
      refine callK_q gauss_Pow.call (p2) rfl rfl ?_
      simp -implicitDefEqProofs only [go_sem, simprocAttr, -Int.reducePow, DD, List.take_succ_cons, List.drop_succ_cons, k1, k2, k3, k7, k8, k9, w3]
      refine callK_q gauss_Mul.call (p4) rfl rfl ?_
      simp -implicitDefEqProofs only [go_sem, simprocAttr, -Int.reducePow, DD, List.take_succ_cons, List.drop_succ_cons, k1, k2, k3, k7, k8, k9, w3]
      refine callK_q gauss_Pow.call (p3) rfl rfl ?_
      simp -implicitDefEqProofs only [go_sem, simprocAttr, -Int.reducePow, DD, List.take_succ_cons, List.drop_succ_cons, k1, k2, k3, k7, k8, k9, w3]
      refine callK_q gauss_Same.call (p5) rfl rfl ?_
      simp -implicitDefEqProofs only [go_sem, simprocAttr, -Int.reducePow, DD, List.take_succ_cons, List.drop_succ_cons, k1, k2, k3, k7, k8, k9, w3]
      refine callK_q gauss_Scale.call (s1) rfl rfl ?_
      simp -implicitDefEqProofs only [go_sem, simprocAttr, -Int.reducePow, DD, List.take_succ_cons, List.drop_succ_cons, k1, k2, k3, k7, k8, k9, w3]
      refine callK_q annulusref4_Of.call (s2) rfl rfl ?_
      simp -implicitDefEqProofs only [go_sem, simprocAttr, -Int.reducePow, DD, List.take_succ_cons, List.drop_succ_cons, k1, k2, k3, k7, k8, k9, w3]
      refine callK_q gauss_Times.call (s3) rfl rfl ?_
      simp -implicitDefEqProofs only [go_sem, simprocAttr, -Int.reducePow, DD, List.take_succ_cons, List.drop_succ_cons, k1, k2, k3, k7, k8, k9, w3]
      refine callK_q gauss_Same.call (s4) rfl rfl ?_
      simp -implicitDefEqProofs only [go_sem, simprocAttr, -Int.reducePow, DD, List.take_succ_cons, List.drop_succ_cons, k1, k2, k3, k7, k8, k9, w3]
    · have cc : (k : Int) < 4 := by omega
      have ck : IntKind.i64.wrap ((k : Int) + 1) = ((k + 1 : Nat) : Int) := by rw [wrap_i64 (by omega) (by omega)]; omega
      have cy := (ytn_cb cx k).mono (C := 1600) (by omega)
      have u1 : Sat CT false 21 [.agg [Bo yn, U32 yl, I64 ye, Bo ym, U32 yk, I64 yf], CI (zI 0 1)] (CI (ytn x (k + 1))) := gmul_r ry (RC_C cI) (by decide)
      have cz := (ytn_cb cx (k + 1)).mono (C := 1700) (by omega)
      have n1 := gnorm_r (RC_C cz) (by decide)
      have n2 := gnorm_r ry (by decide)
      have e1 : nrm (ytn x (k + 1)) = nrm (ytn x k) := ytn_n _
      have e2 : (ytn x (k + 1)).re = -(ytn x k).im := (ytn_1 _).1
      have n3 := requal4d (nrm_db cz) (nrm_db cy) (by decide) (by decide)
      rw [decT e1] at n3
      have n4 := rcplx_r ry (by decide)
      have n5 := rneg4 cy.2 (by decide)
      have n6 := requal4d cz.1 cy.2.neg (by decide) (by decide)
      rw [decT e2] at n6
      have rz := RC_C cz
      generalize hz : ytn x (k + 1) = z at *
      generalize ytn x k = y at *
      simp -implicitDefEqProofs only [go_sem, simprocAttr, -Int.reducePow, DD, List.take_succ_cons, List.drop_succ_cons, k1, k2, k3, k7, k8, k9, cc, ck, CIc]
      refine callK_q gauss_Mul.call (u1) rfl rfl ?_
      simp -implicitDefEqProofs only [go_sem, simprocAttr, -Int.reducePow, DD, List.take_succ_cons, List.drop_succ_cons, k1, k2, k3, k7, k8, k9, cc, ck, CIc]
      refine callK_q gauss_Norm.call (n1) rfl rfl ?_
      simp -implicitDefEqProofs only [go_sem, simprocAttr, -Int.reducePow, DD, List.take_succ_cons, List.drop_succ_cons, k1, k2, k3, k7, k8, k9, cc, ck, CIc]
      refine callK_q gauss_Norm.call (n2) rfl rfl ?_
      simp -implicitDefEqProofs only [go_sem, simprocAttr, -Int.reducePow, DD, List.take_succ_cons, List.drop_succ_cons, k1, k2, k3, k7, k8, k9, cc, ck, CIc]
      refine callK_q annulusref4_Equal.call (n3) rfl rfl ?_
      simp -implicitDefEqProofs only [go_sem, simprocAttr, -Int.reducePow, DD, List.take_succ_cons, List.drop_succ_cons, k1, k2, k3, k7, k8, k9, cc, ck, CIc]
      refine callK_q annulusref8_Cplx.call (n4) rfl rfl ?_
      simp -implicitDefEqProofs only [go_sem, simprocAttr, -Int.reducePow, DD, List.take_succ_cons, List.drop_succ_cons, k1, k2, k3, k7, k8, k9, cc, ck, CIc]
      refine callK_q annulusref4_Neg.call (n5) rfl rfl ?_
      simp -implicitDefEqProofs only [go_sem, simprocAttr, -Int.reducePow, DD, List.take_succ_cons, List.drop_succ_cons, k1, k2, k3, k7, k8, k9, cc, ck, CIc]
      refine callK_q annulusref4_Equal.call (n6) rfl rfl ?_
      simp -implicitDefEqProofs only [go_sem, simprocAttr, -Int.reducePow, DD, List.take_succ_cons, List.drop_succ_cons, k1, k2, k3, k7, k8, k9, cc, ck, CIc]
      exact ⟨4 - (k + 1), by omega, _, _, k + 1, _, _, _, _, _, _, rfl, rfl, by omega, by simp [x_look, k1], by simp [x_look, k2], by simp [x_look, k3], by simp [x_look, k7], by simp [x_look, k8], by simp [x_look], by rw [hz]; exact rz⟩
  · rw [decide_eq_false q1] at f1
    simp -implicitDefEqProofs only [go_sem, simprocAttr, -Int.reducePow, Tryd.f6, DD, List.take_succ_cons, List.drop_succ_cons]
    refine callK_q annuluslaw8_known.call (k0) rfl rfl ?_
    simp -implicitDefEqProofs only [go_sem, simprocAttr, -Int.reducePow, DD, List.take_succ_cons, List.drop_succ_cons]
    refine callK_q annuluslaw8_fewCplx.call (f1) rfl rfl ?_
    simp -implicitDefEqProofs only [go_sem, simprocAttr, -Int.reducePow, DD, List.take_succ_cons, List.drop_succ_cons]
end
end Go.Ab
