/- Contracts of this seat's functions (of each call: what it answers), walked over the abstract machine, and the laws of numbers that they want. Conditions: those that each theorem states. -/
import Derived.Test.YtikhbokeaikcpaaGreatDoorS1
import Derived.Test.YtikhbokeaikcpaaGreatDoorP8
/-! Pellet's theorem for the tests: a sure yes at a place tells how many roots lie within the unit circle -/
set_option linter.unusedVariables false
set_option maxRecDepth 20000
set_option linter.unusedSimpArgs false
set_option linter.unusedSectionVars false
namespace Go.Ab
open Go.Proofs
open Cx (zero one)
end Go.Ab
