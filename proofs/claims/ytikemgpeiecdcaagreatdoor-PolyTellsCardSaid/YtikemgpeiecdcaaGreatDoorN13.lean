/- Contracts of this seat's functions (of each call: what it answers), walked over the abstract machine, and the laws of numbers that they want. Conditions: those that each theorem states. -/
import Derived.Test.YtikemgpeiecdcaaGreatDoorN10
set_option linter.unusedVariables false
set_option maxRecDepth 20000
set_option linter.unusedSimpArgs false
namespace Go.Ab
open Go.Proofs

theorem cmpN_neg {x y : Nat} : cmpN x y < 0 ↔ x < y := by
  unfold cmpN
  constructor
  · intro h
    by_cases q : x < y
    · exact q
    · rw [if_neg q] at h; split at h <;> omega
  · intro h; rw [if_pos h]; decide

end Go.Ab
