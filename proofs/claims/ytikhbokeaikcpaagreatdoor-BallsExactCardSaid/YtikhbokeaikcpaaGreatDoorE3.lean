/- Contracts of this seat's functions (of each call: what it answers), walked over the abstract machine, and the laws of numbers that they want. Conditions: those that each theorem states. -/
import Derived.Test.YtikhbokeaikcpaaGreatDoorE2
set_option linter.unusedVariables false
set_option maxRecDepth 20000
set_option linter.unusedSimpArgs false
set_option linter.unusedSectionVars false
namespace Go.Ab
open Go.Proofs
open Cx (zero one)
attribute [-go_sem] appF newsF
variable {a b : AV} {z w : Cx} {B C n m : Nat} {cs ds : List AV} {f g : Po}
theorem x_zI1 {a : Value} : zerosA [a] 1 = [.v a] := rfl
theorem x_zI2 {a : Value} : zerosA [a] 2 = [.v a, .v a] := by simp [zerosA, List.range_succ, Nat.mod_one]
theorem x_zI3 {a : Value} : zerosA [a] 3 = [.v a, .v a, .v a] := by simp [zerosA, List.range_succ, Nat.mod_one]
theorem x_zI4 {a : Value} : zerosA [a] 4 = [.v a, .v a, .v a, .v a] := by simp [zerosA, List.range_succ, Nat.mod_one]
attribute [go_sem] x_zI1 x_zI2 x_zI3 x_zI4
end Go.Ab
