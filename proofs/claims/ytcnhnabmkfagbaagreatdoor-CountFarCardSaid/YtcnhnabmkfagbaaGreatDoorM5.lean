/- Contracts of this seat's functions (of each call: what it answers), walked over the abstract machine, and the laws of numbers that they want. Conditions: those that each theorem states. -/
import Derived.Test.YtcnhnabmkfagbaaGreatDoorMM
set_option linter.unusedVariables false
set_option maxRecDepth 20000
set_option linter.unusedSimpArgs false
set_option linter.unusedSectionVars false
namespace Go.Ab
open Go.Proofs
open Cx (zero one)
attribute [-go_sem] appF newsF
variable {a b : AV} {x y r s t : Dyadic} {z w c d e : Cx} {B C B' C' n m : Nat}
/-! discs: plain laws -/
/-! sums and products hold theirs -/
/-! powers -/
def cpw (c : Cx) : Nat → Cx
  | 0 => zI 1 0
  | i + 1 => cpw c i * c
def rpw (c : Cx) (r : Dyadic) (P : Nat) : Nat → Dyadic
  | 0 => 0
  | i + 1 => mrad (cpw c i) (rpw c r P i) c r P
end Go.Ab
