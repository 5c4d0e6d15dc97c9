/- Contracts of this seat's functions (of each call: what it answers), walked over the abstract machine, and the laws of numbers that they want. Conditions: those that each theorem states. -/
import Derived.Test.YtikhbokeaikcpaaDoorW5
set_option linter.unusedVariables false
set_option maxRecDepth 20000
set_option linter.unusedSimpArgs false
namespace Go.Ab
open Go.Proofs

section
variable {a b : AV} {x y : Int} {L M : Nat}
theorem shr_r (ha : RI a x L) (c : Int) (hL : L ≤ 1099511000) : Sat CT false 70 [a, I64 c] (WI (fq x (2 ^ shN c))) := by
  obtain ⟨n, l, rfl, hl, rfl, h1⟩ := ha; exact wshr_sat n l c hl (by omega)
theorem small_y (ha : RI a x L) (hL : L ≤ 1099511000) (h1 : -9223372036854775808 ≤ x) (h2 : x ≤ 9223372036854775807) : Sat CT false 69 [a] (.tup [I64 x, Bo true]) := by
  obtain ⟨n, l, rfl, hl, rfl, h3⟩ := ha; exact wsmall_yes n l hl (by omega) ⟨h1, h2⟩
end
end Go.Ab
