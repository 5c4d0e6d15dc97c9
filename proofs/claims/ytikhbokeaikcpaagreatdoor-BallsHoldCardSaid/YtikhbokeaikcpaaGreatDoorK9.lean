/- Contracts of this seat's functions (of each call: what it answers), walked over the abstract machine, and the laws of numbers that they want. Conditions: those that each theorem states. -/
import Derived.Test.YtikhbokeaikcpaaGreatDoorK8
set_option linter.unusedVariables false
set_option maxRecDepth 20000
set_option linter.unusedSimpArgs false
set_option linter.unusedSectionVars false
namespace Go.Ab
open Go.Proofs
open Cx (zero one)
attribute [-go_sem] appF newsF
variable {n m k : Nat}
/-! the law of what is told of balls: whatever comes in -/
theorem few_rts {F : Nat → RawT} (hF : ∀ i, (F i).ok ∧ (-9223372036854775808 ≤ (F i).q ∧ (F i).q ≤ 9223372036854775807)) (hs : ∀ i, i < n → (F i).sm) : RTs (tql n F) n (fun i => (F i).c.z) (fun i => (F i).rd) 296 296 := RTs_q (fun i hi => RawT.rts (hF i).1 (hs i hi))
end Go.Ab
