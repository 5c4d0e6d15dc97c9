/- Contracts of this seat's functions (of each call: what it answers), walked over the abstract machine, and the laws of numbers that they want. Conditions: those that each theorem states. -/
import Derived.Test.YthkpbnbbhlpkjaaGreatDoorM4
set_option linter.unusedVariables false
set_option maxRecDepth 20000
set_option linter.unusedSimpArgs false
set_option linter.unusedSectionVars false
namespace Go.Ab
open Go.Proofs
open Cx (zero one)
attribute [-go_sem] appF newsF
variable {a b : AV} {x y r s t : Dyadic} {z w c d e : Cx} {B C B' C' n m : Nat}
/-! discs: plain laws -/
theorem cmp_le : (dnum (x - y)).sign ≤ 0 ↔ x.toRat ≤ y.toRat := by
  have := (dsg_rat (x - y)).1
  unfold dsg at this
  rw [this, sub_rat]
  constructor <;> (intro; grind)
theorem cmp_gt : 0 < (dnum (x - y)).sign ↔ y.toRat < x.toRat := by
  have := (dsg_rat (x - y)).2
  unfold dsg at this
  rw [this, sub_rat]
  constructor <;> (intro; grind)
theorem cmp_ge : 0 ≤ (dnum (x - y)).sign ↔ y.toRat ≤ x.toRat := by
  rw [sgn_ge0, sgn_nn, sub_rat]
  constructor <;> (intro; grind)
theorem has_rat : hasP c r w ↔ Rc.nq (toRc (w - c)) ≤ r.toRat * r.toRat := by unfold hasP; rw [cmp_le, nrm_rat, Dyadic.toRat_mul]
theorem in_rat : inP c r d s ↔ r.toRat ≤ s.toRat ∧ Rc.nq (toRc (c - d)) ≤ (s.toRat - r.toRat) * (s.toRat - r.toRat) := by unfold inP; rw [cmp_le, nrm_rat, Dyadic.toRat_mul, sub_rat, cmp_ge]
theorem ap_rat : apP c r d s ↔ (r.toRat + s.toRat) * (r.toRat + s.toRat) < Rc.nq (toRc (c - d)) := by unfold apP; rw [cmp_gt, nrm_rat, Dyadic.toRat_mul, Dyadic.toRat_add]
theorem nq_flip (c d : Cx) : Rc.nq (toRc (c - d)) = Rc.nq (toRc (d - c)) := by
  rw [← nrm_rat, ← nrm_rat]
  congr 1
  show (c.re - d.re) * (c.re - d.re) + (c.im - d.im) * (c.im - d.im) = (d.re - c.re) * (d.re - c.re) + (d.im - c.im) * (d.im - c.im)
  grind
theorem nq_tri (c d e : Cx) {X Y : Rat} (hX : 0 ≤ X) (hY : 0 ≤ Y) (h1 : Rc.nq (toRc (c - d)) ≤ X * X) (h2 : Rc.nq (toRc (d - e)) ≤ Y * Y) : Rc.nq (toRc (c - e)) ≤ (X + Y) * (X + Y) := by
  have := Rc.nq_add hX hY h1 h2
  rw [← toRc_add, show c - d + (d - e) = c - e from Cx.ext' (show c.re - d.re + (d.re - e.re) = c.re - e.re by grind) (show c.im - d.im + (d.im - e.im) = c.im - e.im by grind)] at this
  exact this
theorem sq_le {a b : Rat} (ha : 0 ≤ a) (h : a ≤ b) : a * a ≤ b * b := Rc.mul_le2 ha ha h h
theorem nq_self (c : Cx) : Rc.nq (toRc (c - c)) = 0 := by
  rw [← nrm_rat, show nrm (c - c) = 0 by show (c.re - c.re) * (c.re - c.re) + (c.im - c.im) * (c.im - c.im) = 0; grind]
  exact Dyadic.toRat_zero
theorem in_trans (h1 : inP c r d s) (h2 : inP d s e t) : inP c r e t := by
  rw [in_rat] at *
  obtain ⟨a1, a2⟩ := h1
  obtain ⟨b1, b2⟩ := h2
  refine ⟨by grind, ?_⟩
  have := nq_tri c d e (by grind) (by grind) a2 b2
  have e1 : s.toRat - r.toRat + (t.toRat - s.toRat) = t.toRat - r.toRat := by grind
  rwa [e1] at this
theorem in_apart (hr : 0 ≤ r.toRat) (ht : 0 ≤ t.toRat) (h1 : inP c r d s) (h2 : apP d s e t) : apP c r e t := by
  rw [ap_rat] at *
  rw [in_rat] at h1
  obtain ⟨a1, a2⟩ := h1
  rcases (Rat.le_total : Rc.nq (toRc (c - e)) ≤ (r.toRat + t.toRat) * (r.toRat + t.toRat) ∨ _ ≤ _) with q | q
  · rw [nq_flip] at a2
    have := nq_tri d c e (by grind) (by grind) a2 q
    have e1 : s.toRat - r.toRat + (r.toRat + t.toRat) = s.toRat + t.toRat := by grind
    rw [e1] at this
    grind
  · refine Rat.lt_of_le_of_ne q fun e0 => ?_
    have q' : Rc.nq (toRc (c - e)) ≤ (r.toRat + t.toRat) * (r.toRat + t.toRat) := by rw [e0]; exact Rat.le_refl
    rw [nq_flip] at a2
    have := nq_tri d c e (by grind) (by grind) a2 q'
    have e1 : s.toRat - r.toRat + (r.toRat + t.toRat) = s.toRat + t.toRat := by grind
    rw [e1] at this
    grind
theorem ap_symm : apP c r d s ↔ apP d s c r := by
  rw [ap_rat, ap_rat, nq_flip, show r.toRat + s.toRat = s.toRat + r.toRat by grind]
theorem in_refl : inP c r c r := by
  rw [in_rat, nq_self]
  exact ⟨Rat.le_refl, Rc.sq_nn _⟩
theorem ap_self : ¬ apP c r c r := by
  rw [ap_rat, nq_self]
  have := Rc.sq_nn (r.toRat + r.toRat)
  grind
theorem in_grow (hr : 0 ≤ r.toRat) (n : Nat) : inP c r c (r * dv ((n : Int) + 1) 0) := by
  rw [in_rat, nq_self]
  refine ⟨?_, Rc.sq_nn _⟩
  rw [Dyadic.toRat_mul, dv_rat, Rat.zpow_zero, Rat.mul_one]
  have h : (0 : Rat) ≤ (n : Rat) := Rat.natCast_nonneg
  have e : (((n : Int) + 1 : Int) : Rat) = (n : Rat) + 1 := by rw [Rat.intCast_add]; rfl
  rw [e]
  have := Rat.mul_nonneg hr h
  grind
theorem in_nap (hr : 0 ≤ r.toRat) (h : inP c r d s) : ¬ apP c r d s := by
  rw [in_rat] at h
  rw [ap_rat]
  obtain ⟨a1, a2⟩ := h
  have := sq_le (a := s.toRat - r.toRat) (b := r.toRat + s.toRat) (by grind) (by grind)
  grind
theorem has_mid : hasP c r c := by rw [has_rat, nq_self]; exact Rc.sq_nn _
theorem in_has (hr : 0 ≤ r.toRat) (h : inP c r d s) (g : hasP c r w) : hasP d s w := by
  rw [in_rat] at h
  rw [has_rat] at *
  obtain ⟨a1, a2⟩ := h
  have := nq_tri w c d (by grind) (by grind) g a2
  have e1 : r.toRat + (s.toRat - r.toRat) = s.toRat := by grind
  rwa [e1] at this
theorem ap_has (hr : 0 ≤ r.toRat) (hs : 0 ≤ s.toRat) (h : apP c r d s) (g : hasP c r w) : ¬ hasP d s w := fun q => by
  rw [ap_rat] at h
  rw [has_rat] at g q
  rw [nq_flip] at g
  have := nq_tri c w d hr hs g q
  grind
/-! sums and products hold theirs -/
theorem has_add (hr : 0 ≤ r.toRat) (hs : 0 ≤ s.toRat) (h : hasP c r z) (g : hasP d s w) : hasP (c + d) (r + s) (z + w) := by
  rw [has_rat] at *
  have := Rc.nq_add hr hs h g
  rw [← toRc_add, show z - c + (w - d) = z + w - (c + d) from Cx.ext' (show z.re - c.re + (w.re - d.re) = z.re + w.re - (c.re + d.re) by grind) (show z.im - c.im + (w.im - d.im) = z.im + w.im - (c.im + d.im) by grind)] at this
  rwa [Dyadic.toRat_add]
theorem has_neg (h : hasP c r z) : hasP (-c) r (-z) := by
  rw [has_rat] at *
  rw [nq_flip] at h
  rwa [show -z - -c = c - z from Cx.ext' (show -z.re - -c.re = c.re - z.re by grind) (show -z.im - -c.im = c.im - z.im by grind)]
theorem upr_ge {P : Nat} (h0 : 0 ≤ x.toRat) : x.toRat ≤ (upr x P).toRat := by
  unfold upr
  split
  · rename_i q; rw [q]; exact Rat.le_refl
  · unfold gfl
    split
    · exact Rat.le_refl
    · rename_i q0 q
      obtain ⟨k, hk⟩ : ∃ k, (dtop x - P + 1 - dexp x).toNat = k := ⟨_, rfl⟩
      have q1 : ¬ dtop x - P + 1 ≤ dexp x := fun e => q (.inr e)
      rw [hk]
      have e1 : dtop x - P + 1 = dexp x + k := by omega
      have h1 := (RF_hi (dnum x) (d := 2 ^ k) (Nat.two_pow_pos k)).1
      rw [e1, ← dv_shift, ← cmp_le]
      have ex : x = dv (dnum x) (dexp x) := (dv_of x).symm
      have h2 : (x - dv (RF (dnum x) (2 ^ k) true * 2 ^ k) (dexp x)) = dv (dnum x - RF (dnum x) (2 ^ k) true * 2 ^ k) (dexp x) := by
        rw [← dv_sub, dv_of]
      rw [h2, dnum_sign, sgn_le0]
      have e2 : ((2 ^ k : Nat) : Int) = 2 ^ k := by push_cast; rfl
      rw [e2] at h1
      omega
theorem has_mono (hr : 0 ≤ r.toRat) (h : r.toRat ≤ s.toRat) (g : hasP c r z) : hasP c s z := by
  rw [has_rat] at *
  have := sq_le hr h
  grind
theorem has_mul (hr : 0 ≤ r.toRat) (hs : 0 ≤ s.toRat) {P : Nat} (hP : 1 ≤ P) (h : hasP c r z) (g : hasP d s w) : hasP (c * d) (mrad c r d s P) (z * w) := by
  have hm := mra_nn (c := c) (d := d) hr hs hP
  refine has_mono hm (upr_ge hm) ?_
  rw [has_rat] at *
  obtain ⟨f1, f2, _⟩ := far_rat c hP
  obtain ⟨g1, g2, _⟩ := far_rat d hP
  have p1 : Rc.nq (toRc (c * (w - d))) ≤ ((far c P true).toRat * s.toRat) * ((far c P true).toRat * s.toRat) := by
    rw [toRc_mul, Rc.nq_mul]
    have := Rc.mul_le2 (Rc.nq_nn _) (Rc.nq_nn _) f2 g
    grind
  have p2 : Rc.nq (toRc (d * (z - c))) ≤ ((far d P true).toRat * r.toRat) * ((far d P true).toRat * r.toRat) := by
    rw [toRc_mul, Rc.nq_mul]
    have := Rc.mul_le2 (Rc.nq_nn _) (Rc.nq_nn _) g2 h
    grind
  have p3 : Rc.nq (toRc ((z - c) * (w - d))) ≤ (r.toRat * s.toRat) * (r.toRat * s.toRat) := by
    rw [toRc_mul, Rc.nq_mul]
    have := Rc.mul_le2 (Rc.nq_nn _) (Rc.nq_nn _) h g
    grind
  have n1 := Rat.mul_nonneg f1 hs
  have n2 := Rat.mul_nonneg g1 hr
  have n3 := Rat.mul_nonneg hr hs
  have a1 := Rc.nq_add n1 n2 p1 p2
  have a2 := Rc.nq_add (by grind) n3 a1 p3
  rw [← toRc_add, ← toRc_add] at a2
  rw [show c * (w - d) + d * (z - c) + (z - c) * (w - d) = z * w - c * d from Cx.ext'
    (show c.re * (w.re - d.re) - c.im * (w.im - d.im) + (d.re * (z.re - c.re) - d.im * (z.im - c.im)) + ((z.re - c.re) * (w.re - d.re) - (z.im - c.im) * (w.im - d.im)) = z.re * w.re - z.im * w.im - (c.re * d.re - c.im * d.im) by grind)
    (show c.re * (w.im - d.im) + c.im * (w.re - d.re) + (d.re * (z.im - c.im) + d.im * (z.re - c.re)) + ((z.re - c.re) * (w.im - d.im) + (z.im - c.im) * (w.re - d.re)) = z.re * w.im + z.im * w.re - (c.re * d.im + c.im * d.re) by grind)] at a2
  unfold mra
  rw [Dyadic.toRat_add, Dyadic.toRat_add, Dyadic.toRat_mul, Dyadic.toRat_mul, Dyadic.toRat_mul]
  exact a2
/-! powers -/
def cpw (c : Cx) : Nat → Cx
  | 0 => zI 1 0
  | i + 1 => cpw c i * c
def rpw (c : Cx) (r : Dyadic) (P : Nat) : Nat → Dyadic
  | 0 => 0
  | i + 1 => mrad (cpw c i) (rpw c r P i) c r P
theorem cpw_db (h : CB c B) : ∀ i, CB (cpw c i) (i * (B + 1) + 2)
  | 0 => by
    have h0 : CB (zI 1 0) 2 := ⟨(DB.raw (m := 1) (e := 0) (L := 1) (E := 0) (by decide) (by decide) (by decide) : DB (dv 1 0) 2), (DB.raw (m := 0) (e := 0) (L := 1) (E := 0) (by decide) (by decide) (by decide) : DB (dv 0 0) 2)⟩
    rw [Nat.zero_mul]
    exact h0
  | i + 1 => by
    have := (cpw_db h i).mul h
    have e : (i + 1) * (B + 1) = i * (B + 1) + (B + 1) := Nat.succ_mul ..
    exact ⟨this.1.mono (by omega), this.2.mono (by omega)⟩
theorem rpw_nn (hr : 0 ≤ r.toRat) {P : Nat} (hP : 1 ≤ P) : ∀ i, 0 ≤ (rpw c r P i).toRat
  | 0 => by unfold rpw; rw [Dyadic.toRat_zero]; exact Rat.le_refl
  | i + 1 => upr_nn hP (mra_nn (rpw_nn hr hP i) hr hP)
theorem rpw_db (h : CB c B) (hr : DB r B) {P : Nat} (hP : 1 ≤ P) : ∀ i, DB (rpw c r P i) (i * (B + P + 8) + 2)
  | 0 => DB.zero _
  | i + 1 => by
    have e : (i + 1) * (B + P + 8) = i * (B + P + 8) + (B + P + 8) := Nat.succ_mul ..
    have l : i * (B + 1) ≤ i * (B + P + 8) := Nat.mul_le_mul_left i (by omega)
    exact (mrad_db (cpw_db h i) (rpw_db h hr hP i) h hr hP (K := i * (B + P + 8) + B + P + 5) (by omega) (by omega) (by omega)).mono (by omega)
theorem has_pow (hr : 0 ≤ r.toRat) {P : Nat} (hP : 1 ≤ P) (h : hasP c r z) : ∀ i, hasP (cpw c i) (rpw c r P i) (cpw z i)
  | 0 => has_mid
  | i + 1 => has_mul (rpw_nn hr hP i) hr hP (has_pow hr hP h i) h
end Go.Ab
