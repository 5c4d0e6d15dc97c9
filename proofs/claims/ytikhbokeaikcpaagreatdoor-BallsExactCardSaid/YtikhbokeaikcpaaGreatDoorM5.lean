/- Contracts of this seat's functions (of each call: what it answers), walked over the abstract machine, and the laws of numbers that they want. Conditions: those that each theorem states. -/
import Derived.Test.YtikhbokeaikcpaaGreatDoorMM
set_option linter.unusedVariables false
set_option maxRecDepth 20000
set_option linter.unusedSimpArgs false
set_option linter.unusedSectionVars false
namespace Go.Ab
open Go.Proofs
open Cx (zero one)
attribute [-go_sem] appF newsF
variable {a b : AV} {x y r s t : Dyadic} {z w c d e : Cx} {B C B' C' n m : Nat}
/-! discs: plain laws -/
theorem cmp_le : (dnum (x - y)).sign ≤ 0 ↔ x.toRat ≤ y.toRat := by
  have := (dsg_rat (x - y)).1
  unfold dsg at this
  rw [this, sub_rat]
  constructor <;> (intro; grind)
theorem has_rat : hasP c r w ↔ Rc.nq (toRc (w - c)) ≤ r.toRat * r.toRat := by unfold hasP; rw [cmp_le, nrm_rat, Dyadic.toRat_mul]
theorem nq_self (c : Cx) : Rc.nq (toRc (c - c)) = 0 := by
  rw [← nrm_rat, show nrm (c - c) = 0 by show (c.re - c.re) * (c.re - c.re) + (c.im - c.im) * (c.im - c.im) = 0; grind]
  exact Dyadic.toRat_zero
theorem has_mid : hasP c r c := by rw [has_rat, nq_self]; exact Rc.sq_nn _
/-! sums and products hold theirs -/
/-! powers -/
end Go.Ab
