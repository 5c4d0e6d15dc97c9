/-
  No cell of these rows narrows 'for every input' (looked for: loops, veiled, ifaces, maps, wideKeys, modest, calm, conditions, laid).
  DERIVED. THE GIVEN ROWS OF THIS SEAT. 7 by the template 'for every input the law returns true; each argument reads behind the call as it read before'; 0 by the template 'total and deterministic' (their statements: YtchgjgffikdcnaaTotals.lean).
  GIVEN WITH THE SEED: the statements are not yours to turn. If you find one false, say at which input.
  Laid BY PROGRAM, IN A SANDBOX (cutbox-rows.mjs): the forced cells as the released guide's own fill.sh prints them over the translation 2e3d98e534ef979f… (all of the seat's roots in one cut). By AI agents, Wed Nov 11 2026. No macro, syntax, notation, axiom, sorry.
-/
import Derived.Test.YtchgjgffikdcnaaChecked
import GoSem.Claim
import GoSem.ClaimJoined
import GoSem.ClaimMapViews
import Derived.JoinedTies
import Derived.KernelRfl
namespace Go.Proofs.Ytchgjgffikdcnaa
/- THE CELL 'sum', in the pinned program and in every row, IS THE sha256 OF THE DUMP (.gsa) THAT YtchgjgffikdcnaaProg.lean LOADS. Nothing in Lean hashes anything: it is a label: what it is worth is what the hold of that sum in a sandbox is worth. -/
noncomputable def Try.pinned : Pinned := { name := "ytchgjgffikdcnaa", sum := "2e3d98e534ef979f6108812e0eca1440c13c7efe98141db6d005818c639e278f", checked := Try.checked }
namespace Rows
def none {H : Type} : Left H := { results := [], args := [] }

/-- 'annuluslaw2.WholeShifts': WHATEVER THE INPUT: true; the input reads as it did. -/
def wholeShiftsSpec : ChangeSpec := { name := "wholeShifts", fn := fun _ => fun
  | [d1, d2, d3] => { results := [.lit (.bool true)], args := [d1, d2, d3] }
  | _ => none }
def wholeShiftsRow : OpenClaim := { program := "ytchgjgffikdcnaa", sum := "2e3d98e534ef979f6108812e0eca1440c13c7efe98141db6d005818c639e278f", func := "annulus/annuluslaw2.WholeShifts", spec := "wholeShifts", apart := false }
def WholeShiftsSaid : Prop := wholeShiftsRow.holds Try.pinned (OpenSpec.ofChange wholeShiftsSpec)

/-- ITS FALSE NEIGHBOUR: 'it returns false'. Refute it at one input. -/
def wholeShiftsWrong : ChangeSpec := { name := "wholeShifts", fn := fun _ => fun
  | [d1, d2, d3] => { results := [.lit (.bool false)], args := [d1, d2, d3] }
  | _ => none }
def WholeShiftsWrongFalsely : Prop := wholeShiftsRow.holds Try.pinned (OpenSpec.ofChange wholeShiftsWrong)

/-- 'annuluslaw2.WholeEnds': WHATEVER THE INPUT: true; the input reads as it did. -/
def wholeEndsSpec : ChangeSpec := { name := "wholeEnds", fn := fun _ => fun
  | [d] => { results := [.lit (.bool true)], args := [d] }
  | _ => none }
def wholeEndsRow : OpenClaim := { program := "ytchgjgffikdcnaa", sum := "2e3d98e534ef979f6108812e0eca1440c13c7efe98141db6d005818c639e278f", func := "annulus/annuluslaw2.WholeEnds", spec := "wholeEnds", apart := false }
def WholeEndsSaid : Prop := wholeEndsRow.holds Try.pinned (OpenSpec.ofChange wholeEndsSpec)

/-- ITS FALSE NEIGHBOUR: 'it returns false'. Refute it at one input. -/
def wholeEndsWrong : ChangeSpec := { name := "wholeEnds", fn := fun _ => fun
  | [d] => { results := [.lit (.bool false)], args := [d] }
  | _ => none }
def WholeEndsWrongFalsely : Prop := wholeEndsRow.holds Try.pinned (OpenSpec.ofChange wholeEndsWrong)

/-- 'annuluslaw2.WholeRests': WHATEVER THE INPUT: true; the input reads as it did. -/
def wholeRestsSpec : ChangeSpec := { name := "wholeRests", fn := fun _ => fun
  | [d1, d2, d3] => { results := [.lit (.bool true)], args := [d1, d2, d3] }
  | _ => none }
def wholeRestsRow : OpenClaim := { program := "ytchgjgffikdcnaa", sum := "2e3d98e534ef979f6108812e0eca1440c13c7efe98141db6d005818c639e278f", func := "annulus/annuluslaw2.WholeRests", spec := "wholeRests", apart := false }
def WholeRestsSaid : Prop := wholeRestsRow.holds Try.pinned (OpenSpec.ofChange wholeRestsSpec)

/-- ITS FALSE NEIGHBOUR: 'it returns false'. Refute it at one input. -/
def wholeRestsWrong : ChangeSpec := { name := "wholeRests", fn := fun _ => fun
  | [d1, d2, d3] => { results := [.lit (.bool false)], args := [d1, d2, d3] }
  | _ => none }
def WholeRestsWrongFalsely : Prop := wholeRestsRow.holds Try.pinned (OpenSpec.ofChange wholeRestsWrong)

/-- 'annuluslaw2.WholeSmalls': WHATEVER THE INPUT: true; the input reads as it did. -/
def wholeSmallsSpec : ChangeSpec := { name := "wholeSmalls", fn := fun _ => fun
  | [d1, d2, d3] => { results := [.lit (.bool true)], args := [d1, d2, d3] }
  | _ => none }
def wholeSmallsRow : OpenClaim := { program := "ytchgjgffikdcnaa", sum := "2e3d98e534ef979f6108812e0eca1440c13c7efe98141db6d005818c639e278f", func := "annulus/annuluslaw2.WholeSmalls", spec := "wholeSmalls", apart := false }
def WholeSmallsSaid : Prop := wholeSmallsRow.holds Try.pinned (OpenSpec.ofChange wholeSmallsSpec)

/-- ITS FALSE NEIGHBOUR: 'it returns false'. Refute it at one input. -/
def wholeSmallsWrong : ChangeSpec := { name := "wholeSmalls", fn := fun _ => fun
  | [d1, d2, d3] => { results := [.lit (.bool false)], args := [d1, d2, d3] }
  | _ => none }
def WholeSmallsWrongFalsely : Prop := wholeSmallsRow.holds Try.pinned (OpenSpec.ofChange wholeSmallsWrong)

/-- 'annuluslaw2.WholeNorms': WHATEVER THE INPUT: true; the input reads as it did. -/
def wholeNormsSpec : ChangeSpec := { name := "wholeNorms", fn := fun _ => fun
  | [d1, d2, d3] => { results := [.lit (.bool true)], args := [d1, d2, d3] }
  | _ => none }
def wholeNormsRow : OpenClaim := { program := "ytchgjgffikdcnaa", sum := "2e3d98e534ef979f6108812e0eca1440c13c7efe98141db6d005818c639e278f", func := "annulus/annuluslaw2.WholeNorms", spec := "wholeNorms", apart := false }
def WholeNormsSaid : Prop := wholeNormsRow.holds Try.pinned (OpenSpec.ofChange wholeNormsSpec)

/-- ITS FALSE NEIGHBOUR: 'it returns false'. Refute it at one input. -/
def wholeNormsWrong : ChangeSpec := { name := "wholeNorms", fn := fun _ => fun
  | [d1, d2, d3] => { results := [.lit (.bool false)], args := [d1, d2, d3] }
  | _ => none }
def WholeNormsWrongFalsely : Prop := wholeNormsRow.holds Try.pinned (OpenSpec.ofChange wholeNormsWrong)

/-- 'annuluslaw2.WholeTells': WHATEVER THE INPUT: true; the input reads as it did. -/
def wholeTellsSpec : ChangeSpec := { name := "wholeTells", fn := fun _ => fun
  | [d1, d2] => { results := [.lit (.bool true)], args := [d1, d2] }
  | _ => none }
def wholeTellsRow : OpenClaim := { program := "ytchgjgffikdcnaa", sum := "2e3d98e534ef979f6108812e0eca1440c13c7efe98141db6d005818c639e278f", func := "annulus/annuluslaw2.WholeTells", spec := "wholeTells", apart := false }
def WholeTellsSaid : Prop := wholeTellsRow.holds Try.pinned (OpenSpec.ofChange wholeTellsSpec)

/-- ITS FALSE NEIGHBOUR: 'it returns false'. Refute it at one input. -/
def wholeTellsWrong : ChangeSpec := { name := "wholeTells", fn := fun _ => fun
  | [d1, d2] => { results := [.lit (.bool false)], args := [d1, d2] }
  | _ => none }
def WholeTellsWrongFalsely : Prop := wholeTellsRow.holds Try.pinned (OpenSpec.ofChange wholeTellsWrong)

/-- 'annuluslaw2.WholeLaws': WHATEVER THE INPUT: true; the input reads as it did. -/
def wholeLawsSpec : ChangeSpec := { name := "wholeLaws", fn := fun _ => fun
  | [d1, d2, d3] => { results := [.lit (.bool true)], args := [d1, d2, d3] }
  | _ => none }
def wholeLawsRow : OpenClaim := { program := "ytchgjgffikdcnaa", sum := "2e3d98e534ef979f6108812e0eca1440c13c7efe98141db6d005818c639e278f", func := "annulus/annuluslaw2.WholeLaws", spec := "wholeLaws", apart := false }
def WholeLawsSaid : Prop := wholeLawsRow.holds Try.pinned (OpenSpec.ofChange wholeLawsSpec)

/-- ITS FALSE NEIGHBOUR: 'it returns false'. Refute it at one input. -/
def wholeLawsWrong : ChangeSpec := { name := "wholeLaws", fn := fun _ => fun
  | [d1, d2, d3] => { results := [.lit (.bool false)], args := [d1, d2, d3] }
  | _ => none }
def WholeLawsWrongFalsely : Prop := wholeLawsRow.holds Try.pinned (OpenSpec.ofChange wholeLawsWrong)

/- THE SECOND FORM. 'bulk': how many values and letters a reading holds, each counted each time it is reached (what is shared counts as often as it is met; a slice's spare places count too). A statement '..UptoSaid' is the law's where the arguments, and the package variables that the reading takes, are together of bulk at most 1048576: NARROWER than '..Said'. Prove '..Said' where nothing that the law and all that it calls make is longer than what came in: it says more and counts as full. Else prove '..UptoSaid'. A law counts once. -/
mutual
def uptoBulk {H : Type} : DataW H → Nat
  | .lit (.string bytes) => bytes.length + 1
  | .lit _ => 1
  | .nil => 1
  | .ptr d => uptoBulk d + 1
  | .slice elems spare => uptoBulkAll elems + uptoBulkAll spare + 1
  | .agg parts => uptoBulkAll parts + 1
  | .iface _ d => uptoBulk d + 1
  | .map entries => uptoBulkEntries entries + 1
  | .held _ => 1
def uptoBulkAll {H : Type} : List (DataW H) → Nat
  | [] => 0
  | d :: r => uptoBulk d + uptoBulkAll r
def uptoBulkEntries {H : Type} : List (Lit × DataW H) → Nat
  | [] => 0
  | x :: r => uptoBulkEntry x + uptoBulkEntries r
def uptoBulkEntry {H : Type} : Lit × DataW H → Nat
  | (.string bytes, d) => bytes.length + uptoBulk d + 1
  | (_, d) => uptoBulk d + 1
 end
def uptoSmall : (H : Type) → List (DataW H) → Bool := fun _ ds => decide (uptoBulkAll ds ≤ 1048576)
def OpenSpec.upto (s : _root_.Go.ChangeSpec) : _root_.Go.OpenSpec := { _root_.Go.OpenSpec.ofChange s with cond := some uptoSmall }

/-- 'annuluslaw2.WholeShifts', WHERE WHAT IT READS IS OF BULK AT MOST 1048576: true; the input reads as it did. -/
def wholeShiftsUptoRow : OpenClaim := { program := "ytchgjgffikdcnaa", sum := "2e3d98e534ef979f6108812e0eca1440c13c7efe98141db6d005818c639e278f", func := "annulus/annuluslaw2.WholeShifts", spec := "wholeShifts", apart := false, narrowed := true }
def WholeShiftsUptoSaid : Prop := wholeShiftsUptoRow.holds Try.pinned (OpenSpec.upto wholeShiftsSpec)

/-- 'annuluslaw2.WholeEnds', WHERE WHAT IT READS IS OF BULK AT MOST 1048576: true; the input reads as it did. -/
def wholeEndsUptoRow : OpenClaim := { program := "ytchgjgffikdcnaa", sum := "2e3d98e534ef979f6108812e0eca1440c13c7efe98141db6d005818c639e278f", func := "annulus/annuluslaw2.WholeEnds", spec := "wholeEnds", apart := false, narrowed := true }
def WholeEndsUptoSaid : Prop := wholeEndsUptoRow.holds Try.pinned (OpenSpec.upto wholeEndsSpec)

/-- 'annuluslaw2.WholeRests', WHERE WHAT IT READS IS OF BULK AT MOST 1048576: true; the input reads as it did. -/
def wholeRestsUptoRow : OpenClaim := { program := "ytchgjgffikdcnaa", sum := "2e3d98e534ef979f6108812e0eca1440c13c7efe98141db6d005818c639e278f", func := "annulus/annuluslaw2.WholeRests", spec := "wholeRests", apart := false, narrowed := true }
def WholeRestsUptoSaid : Prop := wholeRestsUptoRow.holds Try.pinned (OpenSpec.upto wholeRestsSpec)

/-- 'annuluslaw2.WholeSmalls', WHERE WHAT IT READS IS OF BULK AT MOST 1048576: true; the input reads as it did. -/
def wholeSmallsUptoRow : OpenClaim := { program := "ytchgjgffikdcnaa", sum := "2e3d98e534ef979f6108812e0eca1440c13c7efe98141db6d005818c639e278f", func := "annulus/annuluslaw2.WholeSmalls", spec := "wholeSmalls", apart := false, narrowed := true }
def WholeSmallsUptoSaid : Prop := wholeSmallsUptoRow.holds Try.pinned (OpenSpec.upto wholeSmallsSpec)

/-- 'annuluslaw2.WholeNorms', WHERE WHAT IT READS IS OF BULK AT MOST 1048576: true; the input reads as it did. -/
def wholeNormsUptoRow : OpenClaim := { program := "ytchgjgffikdcnaa", sum := "2e3d98e534ef979f6108812e0eca1440c13c7efe98141db6d005818c639e278f", func := "annulus/annuluslaw2.WholeNorms", spec := "wholeNorms", apart := false, narrowed := true }
def WholeNormsUptoSaid : Prop := wholeNormsUptoRow.holds Try.pinned (OpenSpec.upto wholeNormsSpec)

/-- 'annuluslaw2.WholeTells', WHERE WHAT IT READS IS OF BULK AT MOST 1048576: true; the input reads as it did. -/
def wholeTellsUptoRow : OpenClaim := { program := "ytchgjgffikdcnaa", sum := "2e3d98e534ef979f6108812e0eca1440c13c7efe98141db6d005818c639e278f", func := "annulus/annuluslaw2.WholeTells", spec := "wholeTells", apart := false, narrowed := true }
def WholeTellsUptoSaid : Prop := wholeTellsUptoRow.holds Try.pinned (OpenSpec.upto wholeTellsSpec)

/-- 'annuluslaw2.WholeLaws', WHERE WHAT IT READS IS OF BULK AT MOST 1048576: true; the input reads as it did. -/
def wholeLawsUptoRow : OpenClaim := { program := "ytchgjgffikdcnaa", sum := "2e3d98e534ef979f6108812e0eca1440c13c7efe98141db6d005818c639e278f", func := "annulus/annuluslaw2.WholeLaws", spec := "wholeLaws", apart := false, narrowed := true }
def WholeLawsUptoSaid : Prop := wholeLawsUptoRow.holds Try.pinned (OpenSpec.upto wholeLawsSpec)

end Rows
end Go.Proofs.Ytchgjgffikdcnaa
