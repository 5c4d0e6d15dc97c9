/- Contracts of this seat's functions (of each call: what it answers), walked over the abstract machine, and the laws of numbers that they want. Conditions: those that each theorem states. -/
import Derived.Test.YtikhbokeaikcpaaGreatDoorM5
set_option linter.unusedVariables false
set_option maxRecDepth 20000
set_option linter.unusedSimpArgs false
set_option linter.unusedSectionVars false
namespace Go.Ab
open Go.Proofs
open Cx (zero one)
attribute [-go_sem] appF newsF
variable {a b : AV} {x y r s t : Dyadic} {z w c d e : Cx} {B C B' C' n m : Nat}
/-! powers of discs -/
def tcl (c : Cx) (r : Dyadic) : List AV := [Bo (decide (dnum c.re < 0)), U32 (lim (dnum c.re).natAbs), I64 (dexp c.re), Bo (decide (dnum c.im < 0)), U32 (lim (dnum c.im).natAbs), I64 (dexp c.im), Bo (decide (dnum r < 0)), U32 (lim (dnum r).natAbs), I64 (dexp r)]
end Go.Ab
