/- Contracts of this seat's functions (of each call: what it answers), walked over the abstract machine, and the laws of numbers that they want. Conditions: those that each theorem states. -/
import Derived.Test.YtikhbokeaikcpaaGreatDoorFL6
set_option linter.unusedVariables false
set_option maxRecDepth 20000
set_option linter.unusedSimpArgs false
set_option linter.unusedSectionVars false
namespace Go.Ab
open Go.Proofs
open Cx (zero one)
attribute [-go_sem] appF newsF
variable {a b : AV} {x y r s t : Dyadic} {z w c d e : Cx} {B C n m : Nat}
/-! turns of points -/
theorem d10 : dv 0 0 = 0 ∧ dv 1 0 = 1 := ⟨rfl, rfl⟩
section
attribute [local go_sem] List.cons_append List.length_cons List.set_cons_succ List.getD_cons_succ List.getD_cons_zero List.set_cons_zero x_hset x_hget
end
end Go.Ab
