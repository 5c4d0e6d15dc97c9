/- Contracts of this seat's functions (of each call: what it answers), walked over the abstract machine, and the laws of numbers that they want. Conditions: those that each theorem states. -/
import Derived.Test.YtikhbokeaikcpaaDoorD12
set_option linter.unusedVariables false
set_option maxRecDepth 20000
set_option linter.unusedSimpArgs false
set_option linter.unusedSectionVars false
namespace Go.Ab
open Go.Proofs
open Cx (zero one)
attribute [-go_sem] appF newsF
variable {a b : AV} {z w : Cx} {B C n m : Nat} {cs ds : List AV} {f g : Po}
theorem x_takeCIc {z : Cx} : (CIc z).take 6 = CIc z := rfl
attribute [go_sem] x_takeCIc
theorem PB.dp {f : Po} {B : Nat} (h : PB f B) (i : Nat) : PB (dp i f) B := fun k => h (k + i)
theorem Blk.len {l : List AV} {z : Cx} (h : Blk l z) : l.length = 6 := by rcases h with rfl | ⟨_, rfl⟩ <;> rfl
theorem Blk.take {l : List AV} {z : Cx} (h : Blk l z) : l.take 6 = l := List.take_of_length_le (Nat.le_of_eq h.len)
theorem x_leafOwn {sz k o n : Nat} : leafA (.own sz k o n) = true := rfl
attribute [go_sem] x_frz x_frk x_leafOwn
end Go.Ab
