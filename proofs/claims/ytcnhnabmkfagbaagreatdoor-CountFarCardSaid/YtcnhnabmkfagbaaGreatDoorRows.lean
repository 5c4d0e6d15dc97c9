/-
  NARROWER THAN 'FOR EVERY INPUT', by the rows' own cells (each row's printed sentence says how): CountTells: laid · CountSure: laid · CountFar: laid · CountUnit: laid · CountMore: laid.
  DERIVED. THE GIVEN ROWS OF THIS SEAT. 5 by the template 'for every input the law returns true; each argument reads behind the call as it read before'; 0 by the template 'total and deterministic' (their statements: YtcnhnabmkfagbaaGreatDoorTotals.lean).
  GIVEN WITH THE SEED: the statements are not yours to turn. If you find one false, say at which input.
  Laid BY PROGRAM, IN A SANDBOX (cutbox-rows.mjs): the forced cells as the released guide's own fill.sh prints them over the translation 007500823aff0b64… (all of the seat's roots in one cut). By AI agents, Wed Nov 11 2026. No macro, syntax, notation, axiom, sorry.
-/
import Derived.Test.YtcnhnabmkfagbaaGreatDoorChecked
import GoSem.Claim
import GoSem.ClaimJoined
import GoSem.ClaimMapViews
import Derived.JoinedTies
import Derived.KernelRfl
namespace Go.Proofs.YtcnhnabmkfagbaaGreatDoor
/- THE CELL 'sum', in the pinned program and in every row, IS THE sha256 OF THE DUMP (.gsa) THAT YtcnhnabmkfagbaaGreatDoorProg.lean LOADS. Nothing in Lean hashes anything: it is a label: what it is worth is what the hold of that sum in a sandbox is worth. -/
noncomputable def Tryz.pinned : Pinned := { name := "ytcnhnabmkfagbaagreatdoor", sum := "007500823aff0b648d5d0a87c5cbb7b6eae493d5dc5927122784af9b7165ffde", checked := Tryz.checked }
namespace Rows
def none {H : Type} : Left H := { results := [], args := [] }

/- WHAT THE LISTED PACKAGE-LEVEL VARIABLES READ AS WHEN THE CALL BEGINS. Each datum BY PROGRAM (the guide's laid-datum.mjs) off the statement by which the dump's own 'gosem.cut.vars' lays the variable. In a bare row this is a premise. The card (YtcnhnabmkfagbaaGreatDoorCards.lean) ties it to the program's text. -/
def laid_math_bits_deBruijn32tab {H : Type} : DataW H := .agg [.lit (.int .u8 0), .lit (.int .u8 1), .lit (.int .u8 28), .lit (.int .u8 2), .lit (.int .u8 29), .lit (.int .u8 14), .lit (.int .u8 24), .lit (.int .u8 3), .lit (.int .u8 30), .lit (.int .u8 22), .lit (.int .u8 20), .lit (.int .u8 15), .lit (.int .u8 25), .lit (.int .u8 17), .lit (.int .u8 4), .lit (.int .u8 8), .lit (.int .u8 31), .lit (.int .u8 27), .lit (.int .u8 13), .lit (.int .u8 23), .lit (.int .u8 21), .lit (.int .u8 19), .lit (.int .u8 16), .lit (.int .u8 7), .lit (.int .u8 26), .lit (.int .u8 12), .lit (.int .u8 18), .lit (.int .u8 6), .lit (.int .u8 11), .lit (.int .u8 5), .lit (.int .u8 10), .lit (.int .u8 9)]

/-- 'annuluslaw15.CountTells': WHATEVER THE INPUT: true; the input reads as it did. -/
def countTellsSpec : ChangeSpec := { name := "countTells", fn := fun _ => fun
  | [d1, d2, d3, d4] => { results := [.lit (.bool true)], args := [d1, d2, d3, d4] }
  | _ => none }
def countTellsRow : OpenClaim := { program := "ytcnhnabmkfagbaagreatdoor", sum := "007500823aff0b648d5d0a87c5cbb7b6eae493d5dc5927122784af9b7165ffde", func := "annulus/annuluslaw15.CountTells", spec := "countTells", named := ["math/bits.deBruijn32tab"], apart := false, laid := [("math/bits.deBruijn32tab", laid_math_bits_deBruijn32tab)] }
def CountTellsSaid : Prop := countTellsRow.holds Tryz.pinned (OpenSpec.ofChange countTellsSpec)

/-- ITS FALSE NEIGHBOUR: 'it returns false'. Refute it at one input. -/
def countTellsWrong : ChangeSpec := { name := "countTells", fn := fun _ => fun
  | [d1, d2, d3, d4] => { results := [.lit (.bool false)], args := [d1, d2, d3, d4] }
  | _ => none }
def CountTellsWrongFalsely : Prop := countTellsRow.holds Tryz.pinned (OpenSpec.ofChange countTellsWrong)

/-- 'annuluslaw15.CountSure': WHATEVER THE INPUT: true; the input reads as it did. -/
def countSureSpec : ChangeSpec := { name := "countSure", fn := fun _ => fun
  | [d1, d2, d3, d4] => { results := [.lit (.bool true)], args := [d1, d2, d3, d4] }
  | _ => none }
def countSureRow : OpenClaim := { program := "ytcnhnabmkfagbaagreatdoor", sum := "007500823aff0b648d5d0a87c5cbb7b6eae493d5dc5927122784af9b7165ffde", func := "annulus/annuluslaw15.CountSure", spec := "countSure", named := ["math/bits.deBruijn32tab"], apart := false, laid := [("math/bits.deBruijn32tab", laid_math_bits_deBruijn32tab)] }
def CountSureSaid : Prop := countSureRow.holds Tryz.pinned (OpenSpec.ofChange countSureSpec)

/-- ITS FALSE NEIGHBOUR: 'it returns false'. Refute it at one input. -/
def countSureWrong : ChangeSpec := { name := "countSure", fn := fun _ => fun
  | [d1, d2, d3, d4] => { results := [.lit (.bool false)], args := [d1, d2, d3, d4] }
  | _ => none }
def CountSureWrongFalsely : Prop := countSureRow.holds Tryz.pinned (OpenSpec.ofChange countSureWrong)

/-- 'annuluslaw15.CountFar': WHATEVER THE INPUT: true; the input reads as it did. -/
def countFarSpec : ChangeSpec := { name := "countFar", fn := fun _ => fun
  | [d1, d2, d3] => { results := [.lit (.bool true)], args := [d1, d2, d3] }
  | _ => none }
def countFarRow : OpenClaim := { program := "ytcnhnabmkfagbaagreatdoor", sum := "007500823aff0b648d5d0a87c5cbb7b6eae493d5dc5927122784af9b7165ffde", func := "annulus/annuluslaw15.CountFar", spec := "countFar", named := ["math/bits.deBruijn32tab"], apart := false, laid := [("math/bits.deBruijn32tab", laid_math_bits_deBruijn32tab)] }
def CountFarSaid : Prop := countFarRow.holds Tryz.pinned (OpenSpec.ofChange countFarSpec)

/-- ITS FALSE NEIGHBOUR: 'it returns false'. Refute it at one input. -/
def countFarWrong : ChangeSpec := { name := "countFar", fn := fun _ => fun
  | [d1, d2, d3] => { results := [.lit (.bool false)], args := [d1, d2, d3] }
  | _ => none }
def CountFarWrongFalsely : Prop := countFarRow.holds Tryz.pinned (OpenSpec.ofChange countFarWrong)

/-- 'annuluslaw15.CountUnit': WHATEVER THE INPUT: true; the input reads as it did. -/
def countUnitSpec : ChangeSpec := { name := "countUnit", fn := fun _ => fun
  | [d1, d2] => { results := [.lit (.bool true)], args := [d1, d2] }
  | _ => none }
def countUnitRow : OpenClaim := { program := "ytcnhnabmkfagbaagreatdoor", sum := "007500823aff0b648d5d0a87c5cbb7b6eae493d5dc5927122784af9b7165ffde", func := "annulus/annuluslaw15.CountUnit", spec := "countUnit", named := ["math/bits.deBruijn32tab"], apart := false, laid := [("math/bits.deBruijn32tab", laid_math_bits_deBruijn32tab)] }
def CountUnitSaid : Prop := countUnitRow.holds Tryz.pinned (OpenSpec.ofChange countUnitSpec)

/-- ITS FALSE NEIGHBOUR: 'it returns false'. Refute it at one input. -/
def countUnitWrong : ChangeSpec := { name := "countUnit", fn := fun _ => fun
  | [d1, d2] => { results := [.lit (.bool false)], args := [d1, d2] }
  | _ => none }
def CountUnitWrongFalsely : Prop := countUnitRow.holds Tryz.pinned (OpenSpec.ofChange countUnitWrong)

/-- 'annuluslaw15.CountMore': WHATEVER THE INPUT: true; the input reads as it did. -/
def countMoreSpec : ChangeSpec := { name := "countMore", fn := fun _ => fun
  | [d1, d2, d3, d4] => { results := [.lit (.bool true)], args := [d1, d2, d3, d4] }
  | _ => none }
def countMoreRow : OpenClaim := { program := "ytcnhnabmkfagbaagreatdoor", sum := "007500823aff0b648d5d0a87c5cbb7b6eae493d5dc5927122784af9b7165ffde", func := "annulus/annuluslaw15.CountMore", spec := "countMore", named := ["math/bits.deBruijn32tab"], apart := false, laid := [("math/bits.deBruijn32tab", laid_math_bits_deBruijn32tab)] }
def CountMoreSaid : Prop := countMoreRow.holds Tryz.pinned (OpenSpec.ofChange countMoreSpec)

/-- ITS FALSE NEIGHBOUR: 'it returns false'. Refute it at one input. -/
def countMoreWrong : ChangeSpec := { name := "countMore", fn := fun _ => fun
  | [d1, d2, d3, d4] => { results := [.lit (.bool false)], args := [d1, d2, d3, d4] }
  | _ => none }
def CountMoreWrongFalsely : Prop := countMoreRow.holds Tryz.pinned (OpenSpec.ofChange countMoreWrong)

/- THE SECOND FORM. 'bulk': how many values and letters a reading holds, each counted each time it is reached (what is shared counts as often as it is met; a slice's spare places count too). A statement '..UptoSaid' is the law's where the arguments, and the package variables that the reading takes, are together of bulk at most 1048576: NARROWER than '..Said'. Prove '..Said' where nothing that the law and all that it calls make is longer than what came in: it says more and counts as full. Else prove '..UptoSaid'. A law counts once. -/
mutual
def uptoBulk {H : Type} : DataW H → Nat
  | .lit (.string bytes) => bytes.length + 1
  | .lit _ => 1
  | .nil => 1
  | .ptr d => uptoBulk d + 1
  | .slice elems spare => uptoBulkAll elems + uptoBulkAll spare + 1
  | .agg parts => uptoBulkAll parts + 1
  | .iface _ d => uptoBulk d + 1
  | .map entries => uptoBulkEntries entries + 1
  | .held _ => 1
def uptoBulkAll {H : Type} : List (DataW H) → Nat
  | [] => 0
  | d :: r => uptoBulk d + uptoBulkAll r
def uptoBulkEntries {H : Type} : List (Lit × DataW H) → Nat
  | [] => 0
  | x :: r => uptoBulkEntry x + uptoBulkEntries r
def uptoBulkEntry {H : Type} : Lit × DataW H → Nat
  | (.string bytes, d) => bytes.length + uptoBulk d + 1
  | (_, d) => uptoBulk d + 1
 end
def uptoSmall : (H : Type) → List (DataW H) → Bool := fun _ ds => decide (uptoBulkAll ds ≤ 1048576)
def OpenSpec.upto (s : _root_.Go.ChangeSpec) : _root_.Go.OpenSpec := { _root_.Go.OpenSpec.ofChange s with cond := some uptoSmall }

/-- 'annuluslaw15.CountTells', WHERE WHAT IT READS IS OF BULK AT MOST 1048576: true; the input reads as it did. -/
def countTellsUptoRow : OpenClaim := { program := "ytcnhnabmkfagbaagreatdoor", sum := "007500823aff0b648d5d0a87c5cbb7b6eae493d5dc5927122784af9b7165ffde", func := "annulus/annuluslaw15.CountTells", spec := "countTells", named := ["math/bits.deBruijn32tab"], apart := false, laid := [("math/bits.deBruijn32tab", laid_math_bits_deBruijn32tab)], narrowed := true }
def CountTellsUptoSaid : Prop := countTellsUptoRow.holds Tryz.pinned (OpenSpec.upto countTellsSpec)

/-- 'annuluslaw15.CountSure', WHERE WHAT IT READS IS OF BULK AT MOST 1048576: true; the input reads as it did. -/
def countSureUptoRow : OpenClaim := { program := "ytcnhnabmkfagbaagreatdoor", sum := "007500823aff0b648d5d0a87c5cbb7b6eae493d5dc5927122784af9b7165ffde", func := "annulus/annuluslaw15.CountSure", spec := "countSure", named := ["math/bits.deBruijn32tab"], apart := false, laid := [("math/bits.deBruijn32tab", laid_math_bits_deBruijn32tab)], narrowed := true }
def CountSureUptoSaid : Prop := countSureUptoRow.holds Tryz.pinned (OpenSpec.upto countSureSpec)

/-- 'annuluslaw15.CountFar', WHERE WHAT IT READS IS OF BULK AT MOST 1048576: true; the input reads as it did. -/
def countFarUptoRow : OpenClaim := { program := "ytcnhnabmkfagbaagreatdoor", sum := "007500823aff0b648d5d0a87c5cbb7b6eae493d5dc5927122784af9b7165ffde", func := "annulus/annuluslaw15.CountFar", spec := "countFar", named := ["math/bits.deBruijn32tab"], apart := false, laid := [("math/bits.deBruijn32tab", laid_math_bits_deBruijn32tab)], narrowed := true }
def CountFarUptoSaid : Prop := countFarUptoRow.holds Tryz.pinned (OpenSpec.upto countFarSpec)

/-- 'annuluslaw15.CountUnit', WHERE WHAT IT READS IS OF BULK AT MOST 1048576: true; the input reads as it did. -/
def countUnitUptoRow : OpenClaim := { program := "ytcnhnabmkfagbaagreatdoor", sum := "007500823aff0b648d5d0a87c5cbb7b6eae493d5dc5927122784af9b7165ffde", func := "annulus/annuluslaw15.CountUnit", spec := "countUnit", named := ["math/bits.deBruijn32tab"], apart := false, laid := [("math/bits.deBruijn32tab", laid_math_bits_deBruijn32tab)], narrowed := true }
def CountUnitUptoSaid : Prop := countUnitUptoRow.holds Tryz.pinned (OpenSpec.upto countUnitSpec)

/-- 'annuluslaw15.CountMore', WHERE WHAT IT READS IS OF BULK AT MOST 1048576: true; the input reads as it did. -/
def countMoreUptoRow : OpenClaim := { program := "ytcnhnabmkfagbaagreatdoor", sum := "007500823aff0b648d5d0a87c5cbb7b6eae493d5dc5927122784af9b7165ffde", func := "annulus/annuluslaw15.CountMore", spec := "countMore", named := ["math/bits.deBruijn32tab"], apart := false, laid := [("math/bits.deBruijn32tab", laid_math_bits_deBruijn32tab)], narrowed := true }
def CountMoreUptoSaid : Prop := countMoreUptoRow.holds Tryz.pinned (OpenSpec.upto countMoreSpec)

end Rows
end Go.Proofs.YtcnhnabmkfagbaaGreatDoor
