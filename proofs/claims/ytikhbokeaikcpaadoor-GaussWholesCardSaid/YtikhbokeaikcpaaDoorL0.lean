/- Contracts of this seat's functions (of each call: what it answers), walked over the abstract machine, and the laws of numbers that they want. Conditions: those that each theorem states. -/
import Derived.Test.YtikhbokeaikcpaaDoorFacts
import Derived.Test.YtikhbokeaikcpaaDoorRows
import Derived.ProofKit
import Derived.LaidMore
import Derived.OpenShut
import Derived.ShutString
import Derived.ChangeOld
import Derived.Stop.Joined
set_option linter.unusedVariables false
set_option maxRecDepth 20000
set_option linter.unusedSimpArgs false
/-! How the row's premises and arguments read to the abstract machine. -/
namespace Go.Ab
open Go.Proofs Go.Proofs.YtikhbokeaikcpaaDoor Go.ChangeShapes Go.WideShapes Go.ChangeAt Go.WideMaps Go.WideElems Go.RowKit

theorem reps_nil {S : Nat → Prop} {w : World} : ∀ i, i < ([] : List AV).length → DRep S w (([] : List AV).getD i .bad) (([] : List Value).getD i undef) := fun i h => by simp at h
theorem reps_cons {S : Nat → Prop} {w : World} {a : AV} {x : Value} {l : List AV} {xs : List Value} (h : DRep S w a x) (t : ∀ i, i < l.length → DRep S w (l.getD i .bad) (xs.getD i undef)) :
    ∀ i, i < (a :: l).length → DRep S w ((a :: l).getD i .bad) ((x :: xs).getD i undef) := fun i hi => by
  cases i with
  | zero => exact h
  | succ i => exact t i (by simpa using hi)
theorem i16_of {n : Int} (h : (Lit.int .i16 n).wf = true) : -32768 ≤ n ∧ n ≤ 32767 := by
  simp only [Lit.wf, Bool.and_eq_true, decide_eq_true_eq, IntKind.min, IntKind.max, IntKind.signed, IntKind.bits] at h
  simp at h
  omega
theorem i32_of {n : Int} (h : (Lit.int .i32 n).wf = true) : -2147483648 ≤ n ∧ n ≤ 2147483647 := by
  simp only [Lit.wf, Bool.and_eq_true, decide_eq_true_eq, IntKind.min, IntKind.max, IntKind.signed, IntKind.bits] at h
  simp at h
  omega
end Go.Ab
