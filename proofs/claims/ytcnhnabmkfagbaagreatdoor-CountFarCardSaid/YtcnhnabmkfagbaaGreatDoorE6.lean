/- Contracts of this seat's functions (of each call: what it answers), walked over the abstract machine, and the laws of numbers that they want. Conditions: those that each theorem states. -/
import Derived.Test.YtcnhnabmkfagbaaGreatDoorE4
set_option linter.unusedVariables false
set_option maxRecDepth 20000
set_option linter.unusedSimpArgs false
set_option linter.unusedSectionVars false
namespace Go.Ab
open Go.Proofs
open Cx (zero one)
attribute [-go_sem] appF newsF
variable {a b : AV} {z w : Cx} {B C n m : Nat} {cs ds : List AV} {f g : Po}
theorem frm_top (r : Nat → Cx) (n : Nat) : frm r n n = one := by
  induction n with
  | zero => rw [frm0]; rfl
  | succ n ih =>
    rw [frmS]
    have := conv_top (Sp.frm r n) (Sp.lin (r n))
    rw [this, ih]
    exact Cx.mul_one one
end Go.Ab
