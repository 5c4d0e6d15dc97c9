/- Contracts of this seat's functions (of each call: what it answers), walked over the abstract machine, and the laws of numbers that they want. Conditions: those that each theorem states. -/
import Derived.Test.YtikhbokeaikcpaaGreatDoorK9
import Derived.Test.YtikhbokeaikcpaaGreatDoorE7
set_option linter.unusedVariables false
set_option maxRecDepth 20000
set_option linter.unusedSimpArgs false
set_option linter.unusedSectionVars false
namespace Go.Ab
open Go.Proofs
open Cx (zero one)
attribute [-go_sem] appF newsF
variable {a b : AV} {x y r s t : Dyadic} {z w c d e : Cx} {B C B' C' n m P k : Nat} {cs ds es : List AV} {u u' : Nat → Cx} {v v' : Nat → Dyadic} {f g : Po}
/-! what is held is held: values, derivatives -/
end Go.Ab
