/-
  NARROWER THAN 'FOR EVERY INPUT', by the rows' own cells (each row's printed sentence says how): NatShifts: laid · NatOrder: laid · NatLong: laid · NatTells: laid · NatBack: laid · NatRoots: laid · NatSquares: laid.
  DERIVED. THE GIVEN ROWS OF THIS SEAT. 7 by the template 'for every input the law returns true; each argument reads behind the call as it read before'; 0 by the template 'total and deterministic' (their statements: YtchgjgffikdcnaaDoorTotals.lean).
  GIVEN WITH THE SEED: the statements are not yours to turn. If you find one false, say at which input.
  Laid BY PROGRAM, IN A SANDBOX (cutbox-rows.mjs): the forced cells as the released guide's own fill.sh prints them over the translation 12ef196fdcbcb335… (all of the seat's roots in one cut). By AI agents, Wed Nov 11 2026. No macro, syntax, notation, axiom, sorry.
-/
import Derived.Test.YtchgjgffikdcnaaDoorChecked
import GoSem.Claim
import GoSem.ClaimJoined
import GoSem.ClaimMapViews
import Derived.JoinedTies
import Derived.KernelRfl
namespace Go.Proofs.YtchgjgffikdcnaaDoor
/- THE CELL 'sum', in the pinned program and in every row, IS THE sha256 OF THE DUMP (.gsa) THAT YtchgjgffikdcnaaDoorProg.lean LOADS. Nothing in Lean hashes anything: it is a label: what it is worth is what the hold of that sum in a sandbox is worth. -/
noncomputable def Tryd.pinned : Pinned := { name := "ytchgjgffikdcnaadoor", sum := "12ef196fdcbcb33542b029aac41f311a8fe36010d8fc4cf2aa1c29d9bb1ffc6e", checked := Tryd.checked }
namespace Rows
def none {H : Type} : Left H := { results := [], args := [] }

/- WHAT THE LISTED PACKAGE-LEVEL VARIABLES READ AS WHEN THE CALL BEGINS. Each datum BY PROGRAM (the guide's laid-datum.mjs) off the statement by which the dump's own 'gosem.cut.vars' lays the variable. In a bare row this is a premise. The card (YtchgjgffikdcnaaDoorCards.lean) ties it to the program's text. -/
def laid_math_bits_deBruijn32tab {H : Type} : DataW H := .agg [.lit (.int .u8 0), .lit (.int .u8 1), .lit (.int .u8 28), .lit (.int .u8 2), .lit (.int .u8 29), .lit (.int .u8 14), .lit (.int .u8 24), .lit (.int .u8 3), .lit (.int .u8 30), .lit (.int .u8 22), .lit (.int .u8 20), .lit (.int .u8 15), .lit (.int .u8 25), .lit (.int .u8 17), .lit (.int .u8 4), .lit (.int .u8 8), .lit (.int .u8 31), .lit (.int .u8 27), .lit (.int .u8 13), .lit (.int .u8 23), .lit (.int .u8 21), .lit (.int .u8 19), .lit (.int .u8 16), .lit (.int .u8 7), .lit (.int .u8 26), .lit (.int .u8 12), .lit (.int .u8 18), .lit (.int .u8 6), .lit (.int .u8 11), .lit (.int .u8 5), .lit (.int .u8 10), .lit (.int .u8 9)]

/-- 'annuluslaw1.NatShifts': WHATEVER THE INPUT: true; the input reads as it did. -/
def natShiftsSpec : ChangeSpec := { name := "natShifts", fn := fun _ => fun
  | [d1, d2] => { results := [.lit (.bool true)], args := [d1, d2] }
  | _ => none }
def natShiftsRow : OpenClaim := { program := "ytchgjgffikdcnaadoor", sum := "12ef196fdcbcb33542b029aac41f311a8fe36010d8fc4cf2aa1c29d9bb1ffc6e", func := "annulus/annuluslaw1.NatShifts", spec := "natShifts", named := ["math/bits.deBruijn32tab"], apart := false, laid := [("math/bits.deBruijn32tab", laid_math_bits_deBruijn32tab)] }
def NatShiftsSaid : Prop := natShiftsRow.holds Tryd.pinned (OpenSpec.ofChange natShiftsSpec)

/-- ITS FALSE NEIGHBOUR: 'it returns false'. Refute it at one input. -/
def natShiftsWrong : ChangeSpec := { name := "natShifts", fn := fun _ => fun
  | [d1, d2] => { results := [.lit (.bool false)], args := [d1, d2] }
  | _ => none }
def NatShiftsWrongFalsely : Prop := natShiftsRow.holds Tryd.pinned (OpenSpec.ofChange natShiftsWrong)

/-- 'annuluslaw1.NatOrder': WHATEVER THE INPUT: true; the input reads as it did. -/
def natOrderSpec : ChangeSpec := { name := "natOrder", fn := fun _ => fun
  | [d1, d2, d3, d4] => { results := [.lit (.bool true)], args := [d1, d2, d3, d4] }
  | _ => none }
def natOrderRow : OpenClaim := { program := "ytchgjgffikdcnaadoor", sum := "12ef196fdcbcb33542b029aac41f311a8fe36010d8fc4cf2aa1c29d9bb1ffc6e", func := "annulus/annuluslaw1.NatOrder", spec := "natOrder", named := ["math/bits.deBruijn32tab"], apart := false, laid := [("math/bits.deBruijn32tab", laid_math_bits_deBruijn32tab)] }
def NatOrderSaid : Prop := natOrderRow.holds Tryd.pinned (OpenSpec.ofChange natOrderSpec)

/-- ITS FALSE NEIGHBOUR: 'it returns false'. Refute it at one input. -/
def natOrderWrong : ChangeSpec := { name := "natOrder", fn := fun _ => fun
  | [d1, d2, d3, d4] => { results := [.lit (.bool false)], args := [d1, d2, d3, d4] }
  | _ => none }
def NatOrderWrongFalsely : Prop := natOrderRow.holds Tryd.pinned (OpenSpec.ofChange natOrderWrong)

/-- 'annuluslaw1.NatLong': WHATEVER THE INPUT: true; the input reads as it did. -/
def natLongSpec : ChangeSpec := { name := "natLong", fn := fun _ => fun
  | [d1, d2] => { results := [.lit (.bool true)], args := [d1, d2] }
  | _ => none }
def natLongRow : OpenClaim := { program := "ytchgjgffikdcnaadoor", sum := "12ef196fdcbcb33542b029aac41f311a8fe36010d8fc4cf2aa1c29d9bb1ffc6e", func := "annulus/annuluslaw1.NatLong", spec := "natLong", named := ["math/bits.deBruijn32tab"], apart := false, laid := [("math/bits.deBruijn32tab", laid_math_bits_deBruijn32tab)] }
def NatLongSaid : Prop := natLongRow.holds Tryd.pinned (OpenSpec.ofChange natLongSpec)

/-- ITS FALSE NEIGHBOUR: 'it returns false'. Refute it at one input. -/
def natLongWrong : ChangeSpec := { name := "natLong", fn := fun _ => fun
  | [d1, d2] => { results := [.lit (.bool false)], args := [d1, d2] }
  | _ => none }
def NatLongWrongFalsely : Prop := natLongRow.holds Tryd.pinned (OpenSpec.ofChange natLongWrong)

/-- 'annuluslaw1.NatTells': WHATEVER THE INPUT: true; the input reads as it did. -/
def natTellsSpec : ChangeSpec := { name := "natTells", fn := fun _ => fun
  | [d1, d2] => { results := [.lit (.bool true)], args := [d1, d2] }
  | _ => none }
def natTellsRow : OpenClaim := { program := "ytchgjgffikdcnaadoor", sum := "12ef196fdcbcb33542b029aac41f311a8fe36010d8fc4cf2aa1c29d9bb1ffc6e", func := "annulus/annuluslaw1.NatTells", spec := "natTells", named := ["math/bits.deBruijn32tab"], apart := false, laid := [("math/bits.deBruijn32tab", laid_math_bits_deBruijn32tab)] }
def NatTellsSaid : Prop := natTellsRow.holds Tryd.pinned (OpenSpec.ofChange natTellsSpec)

/-- ITS FALSE NEIGHBOUR: 'it returns false'. Refute it at one input. -/
def natTellsWrong : ChangeSpec := { name := "natTells", fn := fun _ => fun
  | [d1, d2] => { results := [.lit (.bool false)], args := [d1, d2] }
  | _ => none }
def NatTellsWrongFalsely : Prop := natTellsRow.holds Tryd.pinned (OpenSpec.ofChange natTellsWrong)

/-- 'annuluslaw1.NatBack': WHATEVER THE INPUT: true; the input reads as it did. -/
def natBackSpec : ChangeSpec := { name := "natBack", fn := fun _ => fun
  | [d1, d2, d3] => { results := [.lit (.bool true)], args := [d1, d2, d3] }
  | _ => none }
def natBackRow : OpenClaim := { program := "ytchgjgffikdcnaadoor", sum := "12ef196fdcbcb33542b029aac41f311a8fe36010d8fc4cf2aa1c29d9bb1ffc6e", func := "annulus/annuluslaw1.NatBack", spec := "natBack", named := ["math/bits.deBruijn32tab"], apart := false, laid := [("math/bits.deBruijn32tab", laid_math_bits_deBruijn32tab)] }
def NatBackSaid : Prop := natBackRow.holds Tryd.pinned (OpenSpec.ofChange natBackSpec)

/-- ITS FALSE NEIGHBOUR: 'it returns false'. Refute it at one input. -/
def natBackWrong : ChangeSpec := { name := "natBack", fn := fun _ => fun
  | [d1, d2, d3] => { results := [.lit (.bool false)], args := [d1, d2, d3] }
  | _ => none }
def NatBackWrongFalsely : Prop := natBackRow.holds Tryd.pinned (OpenSpec.ofChange natBackWrong)

/-- 'annuluslaw1.NatRoots': WHATEVER THE INPUT: true; the input reads as it did. -/
def natRootsSpec : ChangeSpec := { name := "natRoots", fn := fun _ => fun
  | [d1, d2] => { results := [.lit (.bool true)], args := [d1, d2] }
  | _ => none }
def natRootsRow : OpenClaim := { program := "ytchgjgffikdcnaadoor", sum := "12ef196fdcbcb33542b029aac41f311a8fe36010d8fc4cf2aa1c29d9bb1ffc6e", func := "annulus/annuluslaw1.NatRoots", spec := "natRoots", named := ["math/bits.deBruijn32tab"], apart := false, laid := [("math/bits.deBruijn32tab", laid_math_bits_deBruijn32tab)] }
def NatRootsSaid : Prop := natRootsRow.holds Tryd.pinned (OpenSpec.ofChange natRootsSpec)

/-- ITS FALSE NEIGHBOUR: 'it returns false'. Refute it at one input. -/
def natRootsWrong : ChangeSpec := { name := "natRoots", fn := fun _ => fun
  | [d1, d2] => { results := [.lit (.bool false)], args := [d1, d2] }
  | _ => none }
def NatRootsWrongFalsely : Prop := natRootsRow.holds Tryd.pinned (OpenSpec.ofChange natRootsWrong)

/-- 'annuluslaw1.NatSquares': WHATEVER THE INPUT: true; the input reads as it did. -/
def natSquaresSpec : ChangeSpec := { name := "natSquares", fn := fun _ => fun
  | [d1, d2] => { results := [.lit (.bool true)], args := [d1, d2] }
  | _ => none }
def natSquaresRow : OpenClaim := { program := "ytchgjgffikdcnaadoor", sum := "12ef196fdcbcb33542b029aac41f311a8fe36010d8fc4cf2aa1c29d9bb1ffc6e", func := "annulus/annuluslaw1.NatSquares", spec := "natSquares", named := ["math/bits.deBruijn32tab"], apart := false, laid := [("math/bits.deBruijn32tab", laid_math_bits_deBruijn32tab)] }
def NatSquaresSaid : Prop := natSquaresRow.holds Tryd.pinned (OpenSpec.ofChange natSquaresSpec)

/-- ITS FALSE NEIGHBOUR: 'it returns false'. Refute it at one input. -/
def natSquaresWrong : ChangeSpec := { name := "natSquares", fn := fun _ => fun
  | [d1, d2] => { results := [.lit (.bool false)], args := [d1, d2] }
  | _ => none }
def NatSquaresWrongFalsely : Prop := natSquaresRow.holds Tryd.pinned (OpenSpec.ofChange natSquaresWrong)

/- THE SECOND FORM. 'bulk': how many values and letters a reading holds, each counted each time it is reached (what is shared counts as often as it is met; a slice's spare places count too). A statement '..UptoSaid' is the law's where the arguments, and the package variables that the reading takes, are together of bulk at most 1048576: NARROWER than '..Said'. Prove '..Said' where nothing that the law and all that it calls make is longer than what came in: it says more and counts as full. Else prove '..UptoSaid'. A law counts once. -/
mutual
def uptoBulk {H : Type} : DataW H → Nat
  | .lit (.string bytes) => bytes.length + 1
  | .lit _ => 1
  | .nil => 1
  | .ptr d => uptoBulk d + 1
  | .slice elems spare => uptoBulkAll elems + uptoBulkAll spare + 1
  | .agg parts => uptoBulkAll parts + 1
  | .iface _ d => uptoBulk d + 1
  | .map entries => uptoBulkEntries entries + 1
  | .held _ => 1
def uptoBulkAll {H : Type} : List (DataW H) → Nat
  | [] => 0
  | d :: r => uptoBulk d + uptoBulkAll r
def uptoBulkEntries {H : Type} : List (Lit × DataW H) → Nat
  | [] => 0
  | x :: r => uptoBulkEntry x + uptoBulkEntries r
def uptoBulkEntry {H : Type} : Lit × DataW H → Nat
  | (.string bytes, d) => bytes.length + uptoBulk d + 1
  | (_, d) => uptoBulk d + 1
 end
def uptoSmall : (H : Type) → List (DataW H) → Bool := fun _ ds => decide (uptoBulkAll ds ≤ 1048576)
def OpenSpec.upto (s : _root_.Go.ChangeSpec) : _root_.Go.OpenSpec := { _root_.Go.OpenSpec.ofChange s with cond := some uptoSmall }

/-- 'annuluslaw1.NatShifts', WHERE WHAT IT READS IS OF BULK AT MOST 1048576: true; the input reads as it did. -/
def natShiftsUptoRow : OpenClaim := { program := "ytchgjgffikdcnaadoor", sum := "12ef196fdcbcb33542b029aac41f311a8fe36010d8fc4cf2aa1c29d9bb1ffc6e", func := "annulus/annuluslaw1.NatShifts", spec := "natShifts", named := ["math/bits.deBruijn32tab"], apart := false, laid := [("math/bits.deBruijn32tab", laid_math_bits_deBruijn32tab)], narrowed := true }
def NatShiftsUptoSaid : Prop := natShiftsUptoRow.holds Tryd.pinned (OpenSpec.upto natShiftsSpec)

/-- 'annuluslaw1.NatOrder', WHERE WHAT IT READS IS OF BULK AT MOST 1048576: true; the input reads as it did. -/
def natOrderUptoRow : OpenClaim := { program := "ytchgjgffikdcnaadoor", sum := "12ef196fdcbcb33542b029aac41f311a8fe36010d8fc4cf2aa1c29d9bb1ffc6e", func := "annulus/annuluslaw1.NatOrder", spec := "natOrder", named := ["math/bits.deBruijn32tab"], apart := false, laid := [("math/bits.deBruijn32tab", laid_math_bits_deBruijn32tab)], narrowed := true }
def NatOrderUptoSaid : Prop := natOrderUptoRow.holds Tryd.pinned (OpenSpec.upto natOrderSpec)

/-- 'annuluslaw1.NatLong', WHERE WHAT IT READS IS OF BULK AT MOST 1048576: true; the input reads as it did. -/
def natLongUptoRow : OpenClaim := { program := "ytchgjgffikdcnaadoor", sum := "12ef196fdcbcb33542b029aac41f311a8fe36010d8fc4cf2aa1c29d9bb1ffc6e", func := "annulus/annuluslaw1.NatLong", spec := "natLong", named := ["math/bits.deBruijn32tab"], apart := false, laid := [("math/bits.deBruijn32tab", laid_math_bits_deBruijn32tab)], narrowed := true }
def NatLongUptoSaid : Prop := natLongUptoRow.holds Tryd.pinned (OpenSpec.upto natLongSpec)

/-- 'annuluslaw1.NatTells', WHERE WHAT IT READS IS OF BULK AT MOST 1048576: true; the input reads as it did. -/
def natTellsUptoRow : OpenClaim := { program := "ytchgjgffikdcnaadoor", sum := "12ef196fdcbcb33542b029aac41f311a8fe36010d8fc4cf2aa1c29d9bb1ffc6e", func := "annulus/annuluslaw1.NatTells", spec := "natTells", named := ["math/bits.deBruijn32tab"], apart := false, laid := [("math/bits.deBruijn32tab", laid_math_bits_deBruijn32tab)], narrowed := true }
def NatTellsUptoSaid : Prop := natTellsUptoRow.holds Tryd.pinned (OpenSpec.upto natTellsSpec)

/-- 'annuluslaw1.NatBack', WHERE WHAT IT READS IS OF BULK AT MOST 1048576: true; the input reads as it did. -/
def natBackUptoRow : OpenClaim := { program := "ytchgjgffikdcnaadoor", sum := "12ef196fdcbcb33542b029aac41f311a8fe36010d8fc4cf2aa1c29d9bb1ffc6e", func := "annulus/annuluslaw1.NatBack", spec := "natBack", named := ["math/bits.deBruijn32tab"], apart := false, laid := [("math/bits.deBruijn32tab", laid_math_bits_deBruijn32tab)], narrowed := true }
def NatBackUptoSaid : Prop := natBackUptoRow.holds Tryd.pinned (OpenSpec.upto natBackSpec)

/-- 'annuluslaw1.NatRoots', WHERE WHAT IT READS IS OF BULK AT MOST 1048576: true; the input reads as it did. -/
def natRootsUptoRow : OpenClaim := { program := "ytchgjgffikdcnaadoor", sum := "12ef196fdcbcb33542b029aac41f311a8fe36010d8fc4cf2aa1c29d9bb1ffc6e", func := "annulus/annuluslaw1.NatRoots", spec := "natRoots", named := ["math/bits.deBruijn32tab"], apart := false, laid := [("math/bits.deBruijn32tab", laid_math_bits_deBruijn32tab)], narrowed := true }
def NatRootsUptoSaid : Prop := natRootsUptoRow.holds Tryd.pinned (OpenSpec.upto natRootsSpec)

/-- 'annuluslaw1.NatSquares', WHERE WHAT IT READS IS OF BULK AT MOST 1048576: true; the input reads as it did. -/
def natSquaresUptoRow : OpenClaim := { program := "ytchgjgffikdcnaadoor", sum := "12ef196fdcbcb33542b029aac41f311a8fe36010d8fc4cf2aa1c29d9bb1ffc6e", func := "annulus/annuluslaw1.NatSquares", spec := "natSquares", named := ["math/bits.deBruijn32tab"], apart := false, laid := [("math/bits.deBruijn32tab", laid_math_bits_deBruijn32tab)], narrowed := true }
def NatSquaresUptoSaid : Prop := natSquaresUptoRow.holds Tryd.pinned (OpenSpec.upto natSquaresSpec)

end Rows
end Go.Proofs.YtchgjgffikdcnaaDoor
