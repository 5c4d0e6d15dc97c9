/- Contracts of this seat's functions (of each call: what it answers), walked over the abstract machine, and the laws of numbers that they want. Conditions: those that each theorem states. -/
import Derived.Test.YtikhbokeaikcpaaGreatDoorS1
import Derived.Test.YtikhbokeaikcpaaGreatDoorP8
/-! Pellet's theorem for the tests: a sure yes at a place tells how many roots lie within the unit circle -/
set_option linter.unusedVariables false
set_option maxRecDepth 20000
set_option linter.unusedSimpArgs false
set_option linter.unusedSectionVars false
namespace Go.Ab
open Go.Proofs
open Cx (zero one)
/-- as a rational point -/
def toRc (z : Cx) : Rc := ⟨z.re.toRat, z.im.toRat⟩
theorem two_pos (e : Int) : (0 : Rat) < 2 ^ e := Rat.zpow_pos (by decide)
theorem dsg_rat (x : Dyadic) : (dsg x ≤ 0 ↔ x.toRat ≤ 0) ∧ (0 < dsg x ↔ 0 < x.toRat) := by
  have hx : x.toRat = dnum x * 2 ^ dexp x := by
    have := dv_rat (dnum x) (dexp x)
    rw [dv_of] at this
    exact this
  have hp := two_pos (dexp x)
  have h0 : 0 < dsg x ↔ 0 < x.toRat := by
    unfold dsg
    rw [hx]
    constructor
    · intro h
      have h1 : 0 < dnum x := by
        rcases Int.lt_trichotomy (dnum x) 0 with g | g | g
        · rw [Int.sign_eq_neg_one_of_neg g] at h; exact absurd h (by decide)
        · rw [g] at h; exact absurd h (by decide)
        · exact g
      exact Rat.mul_pos (Rat.intCast_pos.2 h1) hp
    · intro h
      rcases Int.lt_trichotomy (dnum x) 0 with g | g | g
      · exfalso
        have : 0 < (-(dnum x : Rat)) * 2 ^ dexp x := Rat.mul_pos (by have : ((dnum x : Int) : Rat) < 0 := Rat.intCast_neg_iff.2 g; grind) hp
        grind
      · exfalso
        rw [g] at h
        have e : ((0 : Int) : Rat) = 0 := rfl
        rw [e, Rat.zero_mul] at h
        exact absurd h (by decide)
      · rw [Int.sign_eq_one_of_pos g]; decide
  exact ⟨⟨fun h => Rat.not_lt.1 (fun g => by have := h0.2 g; omega), fun h => Int.not_lt.1 (fun g => by have := h0.1 g; grind)⟩, h0⟩
theorem sub_rat (x y : Dyadic) : (x - y).toRat = x.toRat - y.toRat := by
  have e : x - y + y = x := by grind
  have := congrArg Dyadic.toRat e
  rw [Dyadic.toRat_add] at this
  grind
theorem nrm_rat (z : Cx) : (nrm z).toRat = Rc.nq (toRc z) := by
  unfold nrm
  rw [Dyadic.toRat_add, Dyadic.toRat_mul, Dyadic.toRat_mul]
  rfl
/-- how far a point is: between both sides -/
theorem far_rat (z : Cx) {P : Nat} (hP : 1 ≤ P) : 0 ≤ (far z P true).toRat ∧ Rc.nq (toRc z) ≤ (far z P true).toRat * (far z P true).toRat ∧ (far z P false).toRat * (far z P false).toRat ≤ Rc.nq (toRc z) := by
  rw [← nrm_rat]
  unfold far
  by_cases hx : dnum (nrm z) ≤ 0
  · have z0 : ∀ up, droot (nrm z) P up = 0 := fun up => if_pos hx
    have e0 : (0 : Dyadic).toRat = 0 := Dyadic.toRat_zero
    have h1 : (nrm z).toRat ≤ 0 := (dsg_rat (nrm z)).1.1 (by unfold dsg; exact sign_le hx)
    have h2 : 0 ≤ (nrm z).toRat := by rw [nrm_rat]; exact Rc.nq_nn _
    rw [z0, z0, e0]
    exact ⟨by grind, by grind, by grind⟩
  · have hx := Int.not_le.1 hx
    obtain ⟨s1, s2, _, _⟩ := droot_sides hx hP
    obtain ⟨r, A, k, e, _, _, _, h4⟩ := droot_form hx hP
    have h0 : 0 ≤ (droot (nrm z) P true).toRat := by
      rw [h4, dv_rat]
      refine Rat.mul_nonneg ?_ (by have := two_pos e; grind)
      refine Rat.intCast_nonneg.2 ?_
      split <;> omega
    have a1 := (dsg_rat _).1.1 s1
    rw [sub_rat, Dyadic.toRat_mul] at a1
    have a2 : 0 ≤ (droot (nrm z) P true * droot (nrm z) P true - nrm z).toRat := Rat.not_lt.1 (fun g => by
      have g2 : 0 < dsg (nrm z - droot (nrm z) P true * droot (nrm z) P true) := (dsg_rat _).2.2 (by rw [sub_rat] at g ⊢; grind)
      have g3 : dsg (nrm z - droot (nrm z) P true * droot (nrm z) P true) = -dsg (droot (nrm z) P true * droot (nrm z) P true - nrm z) := by
        rw [show nrm z - droot (nrm z) P true * droot (nrm z) P true = -(droot (nrm z) P true * droot (nrm z) P true - nrm z) by grind]
        unfold dsg
        rw [(dneg_num _).1, Int.sign_neg]
      omega)
    rw [sub_rat, Dyadic.toRat_mul] at a2
    exact ⟨h0, by grind, by grind⟩
def rsl (r : Nat → Cx) : Nat → List Rc
  | 0 => []
  | i + 1 => toRc (r i) :: rsl r i
end Go.Ab
