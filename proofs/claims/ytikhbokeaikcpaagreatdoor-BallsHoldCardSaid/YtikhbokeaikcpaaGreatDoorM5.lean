/- Contracts of this seat's functions (of each call: what it answers), walked over the abstract machine, and the laws of numbers that they want. Conditions: those that each theorem states. -/
import Derived.Test.YtikhbokeaikcpaaGreatDoorMM
set_option linter.unusedVariables false
set_option maxRecDepth 20000
set_option linter.unusedSimpArgs false
set_option linter.unusedSectionVars false
namespace Go.Ab
open Go.Proofs
open Cx (zero one)
attribute [-go_sem] appF newsF
variable {a b : AV} {x y r s t : Dyadic} {z w c d e : Cx} {B C B' C' n m : Nat}
/-! discs: plain laws -/
theorem cmp_le : (dnum (x - y)).sign ≤ 0 ↔ x.toRat ≤ y.toRat := by
  have := (dsg_rat (x - y)).1
  unfold dsg at this
  rw [this, sub_rat]
  constructor <;> (intro; grind)
theorem has_rat : hasP c r w ↔ Rc.nq (toRc (w - c)) ≤ r.toRat * r.toRat := by unfold hasP; rw [cmp_le, nrm_rat, Dyadic.toRat_mul]
theorem sq_le {a b : Rat} (ha : 0 ≤ a) (h : a ≤ b) : a * a ≤ b * b := Rc.mul_le2 ha ha h h
theorem nq_self (c : Cx) : Rc.nq (toRc (c - c)) = 0 := by
  rw [← nrm_rat, show nrm (c - c) = 0 by show (c.re - c.re) * (c.re - c.re) + (c.im - c.im) * (c.im - c.im) = 0; grind]
  exact Dyadic.toRat_zero
theorem has_mid : hasP c r c := by rw [has_rat, nq_self]; exact Rc.sq_nn _
/-! sums and products hold theirs -/
theorem has_add (hr : 0 ≤ r.toRat) (hs : 0 ≤ s.toRat) (h : hasP c r z) (g : hasP d s w) : hasP (c + d) (r + s) (z + w) := by
  rw [has_rat] at *
  have := Rc.nq_add hr hs h g
  rw [← toRc_add, show z - c + (w - d) = z + w - (c + d) from Cx.ext' (show z.re - c.re + (w.re - d.re) = z.re + w.re - (c.re + d.re) by grind) (show z.im - c.im + (w.im - d.im) = z.im + w.im - (c.im + d.im) by grind)] at this
  rwa [Dyadic.toRat_add]
theorem upr_ge {P : Nat} (h0 : 0 ≤ x.toRat) : x.toRat ≤ (upr x P).toRat := by
  unfold upr
  split
  · rename_i q; rw [q]; exact Rat.le_refl
  · unfold gfl
    split
    · exact Rat.le_refl
    · rename_i q0 q
      obtain ⟨k, hk⟩ : ∃ k, (dtop x - P + 1 - dexp x).toNat = k := ⟨_, rfl⟩
      have q1 : ¬ dtop x - P + 1 ≤ dexp x := fun e => q (.inr e)
      rw [hk]
      have e1 : dtop x - P + 1 = dexp x + k := by omega
      have h1 := (RF_hi (dnum x) (d := 2 ^ k) (Nat.two_pow_pos k)).1
      rw [e1, ← dv_shift, ← cmp_le]
      have ex : x = dv (dnum x) (dexp x) := (dv_of x).symm
      have h2 : (x - dv (RF (dnum x) (2 ^ k) true * 2 ^ k) (dexp x)) = dv (dnum x - RF (dnum x) (2 ^ k) true * 2 ^ k) (dexp x) := by
        rw [← dv_sub, dv_of]
      rw [h2, dnum_sign, sgn_le0]
      have e2 : ((2 ^ k : Nat) : Int) = 2 ^ k := by push_cast; rfl
      rw [e2] at h1
      omega
theorem has_mono (hr : 0 ≤ r.toRat) (h : r.toRat ≤ s.toRat) (g : hasP c r z) : hasP c s z := by
  rw [has_rat] at *
  have := sq_le hr h
  grind
theorem has_mul (hr : 0 ≤ r.toRat) (hs : 0 ≤ s.toRat) {P : Nat} (hP : 1 ≤ P) (h : hasP c r z) (g : hasP d s w) : hasP (c * d) (mrad c r d s P) (z * w) := by
  have hm := mra_nn (c := c) (d := d) hr hs hP
  refine has_mono hm (upr_ge hm) ?_
  rw [has_rat] at *
  obtain ⟨f1, f2, _⟩ := far_rat c hP
  obtain ⟨g1, g2, _⟩ := far_rat d hP
  have p1 : Rc.nq (toRc (c * (w - d))) ≤ ((far c P true).toRat * s.toRat) * ((far c P true).toRat * s.toRat) := by
    rw [toRc_mul, Rc.nq_mul]
    have := Rc.mul_le2 (Rc.nq_nn _) (Rc.nq_nn _) f2 g
    grind
  have p2 : Rc.nq (toRc (d * (z - c))) ≤ ((far d P true).toRat * r.toRat) * ((far d P true).toRat * r.toRat) := by
    rw [toRc_mul, Rc.nq_mul]
    have := Rc.mul_le2 (Rc.nq_nn _) (Rc.nq_nn _) g2 h
    grind
  have p3 : Rc.nq (toRc ((z - c) * (w - d))) ≤ (r.toRat * s.toRat) * (r.toRat * s.toRat) := by
    rw [toRc_mul, Rc.nq_mul]
    have := Rc.mul_le2 (Rc.nq_nn _) (Rc.nq_nn _) h g
    grind
  have n1 := Rat.mul_nonneg f1 hs
  have n2 := Rat.mul_nonneg g1 hr
  have n3 := Rat.mul_nonneg hr hs
  have a1 := Rc.nq_add n1 n2 p1 p2
  have a2 := Rc.nq_add (by grind) n3 a1 p3
  rw [← toRc_add, ← toRc_add] at a2
  rw [show c * (w - d) + d * (z - c) + (z - c) * (w - d) = z * w - c * d from Cx.ext'
    (show c.re * (w.re - d.re) - c.im * (w.im - d.im) + (d.re * (z.re - c.re) - d.im * (z.im - c.im)) + ((z.re - c.re) * (w.re - d.re) - (z.im - c.im) * (w.im - d.im)) = z.re * w.re - z.im * w.im - (c.re * d.re - c.im * d.im) by grind)
    (show c.re * (w.im - d.im) + c.im * (w.re - d.re) + (d.re * (z.im - c.im) + d.im * (z.re - c.re)) + ((z.re - c.re) * (w.im - d.im) + (z.im - c.im) * (w.re - d.re)) = z.re * w.im + z.im * w.re - (c.re * d.im + c.im * d.re) by grind)] at a2
  unfold mra
  rw [Dyadic.toRat_add, Dyadic.toRat_add, Dyadic.toRat_mul, Dyadic.toRat_mul, Dyadic.toRat_mul]
  exact a2
/-! powers -/
end Go.Ab
