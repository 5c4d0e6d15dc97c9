/-
  NARROWER THAN 'FOR EVERY INPUT', by the rows' own cells (each row's printed sentence says how): GraeffeTells: laid · GraeffeRoots: laid · GraeffeValues: laid · GraeffeProducts: laid · GraeffeTops: laid · PolyRoots: laid · PolyShifts: laid · PolyDegrees: laid · PolyLaws: laid.
  DERIVED. THE GIVEN ROWS OF THIS SEAT. 9 by the template 'for every input the law returns true; each argument reads behind the call as it read before'; 0 by the template 'total and deterministic' (their statements: YtikemgpeiecdcaaDoorTotals.lean).
  GIVEN WITH THE SEED: the statements are not yours to turn. If you find one false, say at which input.
  Laid BY PROGRAM, IN A SANDBOX (cutbox-rows.mjs): the forced cells as the released guide's own fill.sh prints them over the translation eaeddb09e2eed073… (all of the seat's roots in one cut). By AI agents, Wed Nov 11 2026. No macro, syntax, notation, axiom, sorry.
-/
import Derived.Test.YtikemgpeiecdcaaDoorChecked
import GoSem.Claim
import GoSem.ClaimJoined
import GoSem.ClaimMapViews
import Derived.JoinedTies
import Derived.KernelRfl
namespace Go.Proofs.YtikemgpeiecdcaaDoor
/- THE CELL 'sum', in the pinned program and in every row, IS THE sha256 OF THE DUMP (.gsa) THAT YtikemgpeiecdcaaDoorProg.lean LOADS. Nothing in Lean hashes anything: it is a label: what it is worth is what the hold of that sum in a sandbox is worth. -/
noncomputable def Tryd.pinned : Pinned := { name := "ytikemgpeiecdcaadoor", sum := "eaeddb09e2eed073ad006c8ad7c257cd3457ec446a159edd53291a8aa6887d03", checked := Tryd.checked }
namespace Rows
def none {H : Type} : Left H := { results := [], args := [] }

/- WHAT THE LISTED PACKAGE-LEVEL VARIABLES READ AS WHEN THE CALL BEGINS. Each datum BY PROGRAM (the guide's laid-datum.mjs) off the statement by which the dump's own 'gosem.cut.vars' lays the variable. In a bare row this is a premise. The card (YtikemgpeiecdcaaDoorCards.lean) ties it to the program's text. -/
def laid_math_bits_deBruijn32tab {H : Type} : DataW H := .agg [.lit (.int .u8 0), .lit (.int .u8 1), .lit (.int .u8 28), .lit (.int .u8 2), .lit (.int .u8 29), .lit (.int .u8 14), .lit (.int .u8 24), .lit (.int .u8 3), .lit (.int .u8 30), .lit (.int .u8 22), .lit (.int .u8 20), .lit (.int .u8 15), .lit (.int .u8 25), .lit (.int .u8 17), .lit (.int .u8 4), .lit (.int .u8 8), .lit (.int .u8 31), .lit (.int .u8 27), .lit (.int .u8 13), .lit (.int .u8 23), .lit (.int .u8 21), .lit (.int .u8 19), .lit (.int .u8 16), .lit (.int .u8 7), .lit (.int .u8 26), .lit (.int .u8 12), .lit (.int .u8 18), .lit (.int .u8 6), .lit (.int .u8 11), .lit (.int .u8 5), .lit (.int .u8 10), .lit (.int .u8 9)]

/-- 'annuluslaw13.GraeffeTells': WHATEVER THE INPUT: true; the input reads as it did. -/
def graeffeTellsSpec : ChangeSpec := { name := "graeffeTells", fn := fun _ => fun
  | [d1, d2] => { results := [.lit (.bool true)], args := [d1, d2] }
  | _ => none }
def graeffeTellsRow : OpenClaim := { program := "ytikemgpeiecdcaadoor", sum := "eaeddb09e2eed073ad006c8ad7c257cd3457ec446a159edd53291a8aa6887d03", func := "annulus/annuluslaw13.GraeffeTells", spec := "graeffeTells", named := ["math/bits.deBruijn32tab"], apart := false, laid := [("math/bits.deBruijn32tab", laid_math_bits_deBruijn32tab)] }
def GraeffeTellsSaid : Prop := graeffeTellsRow.holds Tryd.pinned (OpenSpec.ofChange graeffeTellsSpec)

/-- ITS FALSE NEIGHBOUR: 'it returns false'. Refute it at one input. -/
def graeffeTellsWrong : ChangeSpec := { name := "graeffeTells", fn := fun _ => fun
  | [d1, d2] => { results := [.lit (.bool false)], args := [d1, d2] }
  | _ => none }
def GraeffeTellsWrongFalsely : Prop := graeffeTellsRow.holds Tryd.pinned (OpenSpec.ofChange graeffeTellsWrong)

/-- 'annuluslaw13.GraeffeRoots': WHATEVER THE INPUT: true; the input reads as it did. -/
def graeffeRootsSpec : ChangeSpec := { name := "graeffeRoots", fn := fun _ => fun
  | [d1, d2] => { results := [.lit (.bool true)], args := [d1, d2] }
  | _ => none }
def graeffeRootsRow : OpenClaim := { program := "ytikemgpeiecdcaadoor", sum := "eaeddb09e2eed073ad006c8ad7c257cd3457ec446a159edd53291a8aa6887d03", func := "annulus/annuluslaw13.GraeffeRoots", spec := "graeffeRoots", named := ["math/bits.deBruijn32tab"], apart := false, laid := [("math/bits.deBruijn32tab", laid_math_bits_deBruijn32tab)] }
def GraeffeRootsSaid : Prop := graeffeRootsRow.holds Tryd.pinned (OpenSpec.ofChange graeffeRootsSpec)

/-- ITS FALSE NEIGHBOUR: 'it returns false'. Refute it at one input. -/
def graeffeRootsWrong : ChangeSpec := { name := "graeffeRoots", fn := fun _ => fun
  | [d1, d2] => { results := [.lit (.bool false)], args := [d1, d2] }
  | _ => none }
def GraeffeRootsWrongFalsely : Prop := graeffeRootsRow.holds Tryd.pinned (OpenSpec.ofChange graeffeRootsWrong)

/-- 'annuluslaw13.GraeffeValues': WHATEVER THE INPUT: true; the input reads as it did. -/
def graeffeValuesSpec : ChangeSpec := { name := "graeffeValues", fn := fun _ => fun
  | [d1, d2] => { results := [.lit (.bool true)], args := [d1, d2] }
  | _ => none }
def graeffeValuesRow : OpenClaim := { program := "ytikemgpeiecdcaadoor", sum := "eaeddb09e2eed073ad006c8ad7c257cd3457ec446a159edd53291a8aa6887d03", func := "annulus/annuluslaw13.GraeffeValues", spec := "graeffeValues", named := ["math/bits.deBruijn32tab"], apart := false, laid := [("math/bits.deBruijn32tab", laid_math_bits_deBruijn32tab)] }
def GraeffeValuesSaid : Prop := graeffeValuesRow.holds Tryd.pinned (OpenSpec.ofChange graeffeValuesSpec)

/-- ITS FALSE NEIGHBOUR: 'it returns false'. Refute it at one input. -/
def graeffeValuesWrong : ChangeSpec := { name := "graeffeValues", fn := fun _ => fun
  | [d1, d2] => { results := [.lit (.bool false)], args := [d1, d2] }
  | _ => none }
def GraeffeValuesWrongFalsely : Prop := graeffeValuesRow.holds Tryd.pinned (OpenSpec.ofChange graeffeValuesWrong)

/-- 'annuluslaw13.GraeffeProducts': WHATEVER THE INPUT: true; the input reads as it did. -/
def graeffeProductsSpec : ChangeSpec := { name := "graeffeProducts", fn := fun _ => fun
  | [d1, d2] => { results := [.lit (.bool true)], args := [d1, d2] }
  | _ => none }
def graeffeProductsRow : OpenClaim := { program := "ytikemgpeiecdcaadoor", sum := "eaeddb09e2eed073ad006c8ad7c257cd3457ec446a159edd53291a8aa6887d03", func := "annulus/annuluslaw13.GraeffeProducts", spec := "graeffeProducts", named := ["math/bits.deBruijn32tab"], apart := false, laid := [("math/bits.deBruijn32tab", laid_math_bits_deBruijn32tab)] }
def GraeffeProductsSaid : Prop := graeffeProductsRow.holds Tryd.pinned (OpenSpec.ofChange graeffeProductsSpec)

/-- ITS FALSE NEIGHBOUR: 'it returns false'. Refute it at one input. -/
def graeffeProductsWrong : ChangeSpec := { name := "graeffeProducts", fn := fun _ => fun
  | [d1, d2] => { results := [.lit (.bool false)], args := [d1, d2] }
  | _ => none }
def GraeffeProductsWrongFalsely : Prop := graeffeProductsRow.holds Tryd.pinned (OpenSpec.ofChange graeffeProductsWrong)

/-- 'annuluslaw13.GraeffeTops': WHATEVER THE INPUT: true; the input reads as it did. -/
def graeffeTopsSpec : ChangeSpec := { name := "graeffeTops", fn := fun _ => fun
  | [d] => { results := [.lit (.bool true)], args := [d] }
  | _ => none }
def graeffeTopsRow : OpenClaim := { program := "ytikemgpeiecdcaadoor", sum := "eaeddb09e2eed073ad006c8ad7c257cd3457ec446a159edd53291a8aa6887d03", func := "annulus/annuluslaw13.GraeffeTops", spec := "graeffeTops", named := ["math/bits.deBruijn32tab"], apart := false, laid := [("math/bits.deBruijn32tab", laid_math_bits_deBruijn32tab)] }
def GraeffeTopsSaid : Prop := graeffeTopsRow.holds Tryd.pinned (OpenSpec.ofChange graeffeTopsSpec)

/-- ITS FALSE NEIGHBOUR: 'it returns false'. Refute it at one input. -/
def graeffeTopsWrong : ChangeSpec := { name := "graeffeTops", fn := fun _ => fun
  | [d] => { results := [.lit (.bool false)], args := [d] }
  | _ => none }
def GraeffeTopsWrongFalsely : Prop := graeffeTopsRow.holds Tryd.pinned (OpenSpec.ofChange graeffeTopsWrong)

/-- 'annuluslaw11.PolyRoots': WHATEVER THE INPUT: true; the input reads as it did. -/
def polyRootsSpec : ChangeSpec := { name := "polyRoots", fn := fun _ => fun
  | [d1, d2] => { results := [.lit (.bool true)], args := [d1, d2] }
  | _ => none }
def polyRootsRow : OpenClaim := { program := "ytikemgpeiecdcaadoor", sum := "eaeddb09e2eed073ad006c8ad7c257cd3457ec446a159edd53291a8aa6887d03", func := "annulus/annuluslaw11.PolyRoots", spec := "polyRoots", named := ["math/bits.deBruijn32tab"], apart := false, laid := [("math/bits.deBruijn32tab", laid_math_bits_deBruijn32tab)] }
def PolyRootsSaid : Prop := polyRootsRow.holds Tryd.pinned (OpenSpec.ofChange polyRootsSpec)

/-- ITS FALSE NEIGHBOUR: 'it returns false'. Refute it at one input. -/
def polyRootsWrong : ChangeSpec := { name := "polyRoots", fn := fun _ => fun
  | [d1, d2] => { results := [.lit (.bool false)], args := [d1, d2] }
  | _ => none }
def PolyRootsWrongFalsely : Prop := polyRootsRow.holds Tryd.pinned (OpenSpec.ofChange polyRootsWrong)

/-- 'annuluslaw11.PolyShifts': WHATEVER THE INPUT: true; the input reads as it did. -/
def polyShiftsSpec : ChangeSpec := { name := "polyShifts", fn := fun _ => fun
  | [d1, d2] => { results := [.lit (.bool true)], args := [d1, d2] }
  | _ => none }
def polyShiftsRow : OpenClaim := { program := "ytikemgpeiecdcaadoor", sum := "eaeddb09e2eed073ad006c8ad7c257cd3457ec446a159edd53291a8aa6887d03", func := "annulus/annuluslaw11.PolyShifts", spec := "polyShifts", named := ["math/bits.deBruijn32tab"], apart := false, laid := [("math/bits.deBruijn32tab", laid_math_bits_deBruijn32tab)] }
def PolyShiftsSaid : Prop := polyShiftsRow.holds Tryd.pinned (OpenSpec.ofChange polyShiftsSpec)

/-- ITS FALSE NEIGHBOUR: 'it returns false'. Refute it at one input. -/
def polyShiftsWrong : ChangeSpec := { name := "polyShifts", fn := fun _ => fun
  | [d1, d2] => { results := [.lit (.bool false)], args := [d1, d2] }
  | _ => none }
def PolyShiftsWrongFalsely : Prop := polyShiftsRow.holds Tryd.pinned (OpenSpec.ofChange polyShiftsWrong)

/-- 'annuluslaw11.PolyDegrees': WHATEVER THE INPUT: true; the input reads as it did. -/
def polyDegreesSpec : ChangeSpec := { name := "polyDegrees", fn := fun _ => fun
  | [d1, d2] => { results := [.lit (.bool true)], args := [d1, d2] }
  | _ => none }
def polyDegreesRow : OpenClaim := { program := "ytikemgpeiecdcaadoor", sum := "eaeddb09e2eed073ad006c8ad7c257cd3457ec446a159edd53291a8aa6887d03", func := "annulus/annuluslaw11.PolyDegrees", spec := "polyDegrees", named := ["math/bits.deBruijn32tab"], apart := false, laid := [("math/bits.deBruijn32tab", laid_math_bits_deBruijn32tab)] }
def PolyDegreesSaid : Prop := polyDegreesRow.holds Tryd.pinned (OpenSpec.ofChange polyDegreesSpec)

/-- ITS FALSE NEIGHBOUR: 'it returns false'. Refute it at one input. -/
def polyDegreesWrong : ChangeSpec := { name := "polyDegrees", fn := fun _ => fun
  | [d1, d2] => { results := [.lit (.bool false)], args := [d1, d2] }
  | _ => none }
def PolyDegreesWrongFalsely : Prop := polyDegreesRow.holds Tryd.pinned (OpenSpec.ofChange polyDegreesWrong)

/-- 'annuluslaw11.PolyLaws': WHATEVER THE INPUT: true; the input reads as it did. -/
def polyLawsSpec : ChangeSpec := { name := "polyLaws", fn := fun _ => fun
  | [d1, d2, d3, d4, d5] => { results := [.lit (.bool true)], args := [d1, d2, d3, d4, d5] }
  | _ => none }
def polyLawsRow : OpenClaim := { program := "ytikemgpeiecdcaadoor", sum := "eaeddb09e2eed073ad006c8ad7c257cd3457ec446a159edd53291a8aa6887d03", func := "annulus/annuluslaw11.PolyLaws", spec := "polyLaws", named := ["math/bits.deBruijn32tab"], apart := false, laid := [("math/bits.deBruijn32tab", laid_math_bits_deBruijn32tab)] }
def PolyLawsSaid : Prop := polyLawsRow.holds Tryd.pinned (OpenSpec.ofChange polyLawsSpec)

/-- ITS FALSE NEIGHBOUR: 'it returns false'. Refute it at one input. -/
def polyLawsWrong : ChangeSpec := { name := "polyLaws", fn := fun _ => fun
  | [d1, d2, d3, d4, d5] => { results := [.lit (.bool false)], args := [d1, d2, d3, d4, d5] }
  | _ => none }
def PolyLawsWrongFalsely : Prop := polyLawsRow.holds Tryd.pinned (OpenSpec.ofChange polyLawsWrong)

/- THE SECOND FORM. 'bulk': how many values and letters a reading holds, each counted each time it is reached (what is shared counts as often as it is met; a slice's spare places count too). A statement '..UptoSaid' is the law's where the arguments, and the package variables that the reading takes, are together of bulk at most 1048576: NARROWER than '..Said'. Prove '..Said' where nothing that the law and all that it calls make is longer than what came in: it says more and counts as full. Else prove '..UptoSaid'. A law counts once. -/
mutual
def uptoBulk {H : Type} : DataW H → Nat
  | .lit (.string bytes) => bytes.length + 1
  | .lit _ => 1
  | .nil => 1
  | .ptr d => uptoBulk d + 1
  | .slice elems spare => uptoBulkAll elems + uptoBulkAll spare + 1
  | .agg parts => uptoBulkAll parts + 1
  | .iface _ d => uptoBulk d + 1
  | .map entries => uptoBulkEntries entries + 1
  | .held _ => 1
def uptoBulkAll {H : Type} : List (DataW H) → Nat
  | [] => 0
  | d :: r => uptoBulk d + uptoBulkAll r
def uptoBulkEntries {H : Type} : List (Lit × DataW H) → Nat
  | [] => 0
  | x :: r => uptoBulkEntry x + uptoBulkEntries r
def uptoBulkEntry {H : Type} : Lit × DataW H → Nat
  | (.string bytes, d) => bytes.length + uptoBulk d + 1
  | (_, d) => uptoBulk d + 1
 end
def uptoSmall : (H : Type) → List (DataW H) → Bool := fun _ ds => decide (uptoBulkAll ds ≤ 1048576)
def OpenSpec.upto (s : _root_.Go.ChangeSpec) : _root_.Go.OpenSpec := { _root_.Go.OpenSpec.ofChange s with cond := some uptoSmall }

/-- 'annuluslaw13.GraeffeTells', WHERE WHAT IT READS IS OF BULK AT MOST 1048576: true; the input reads as it did. -/
def graeffeTellsUptoRow : OpenClaim := { program := "ytikemgpeiecdcaadoor", sum := "eaeddb09e2eed073ad006c8ad7c257cd3457ec446a159edd53291a8aa6887d03", func := "annulus/annuluslaw13.GraeffeTells", spec := "graeffeTells", named := ["math/bits.deBruijn32tab"], apart := false, laid := [("math/bits.deBruijn32tab", laid_math_bits_deBruijn32tab)], narrowed := true }
def GraeffeTellsUptoSaid : Prop := graeffeTellsUptoRow.holds Tryd.pinned (OpenSpec.upto graeffeTellsSpec)

/-- 'annuluslaw13.GraeffeRoots', WHERE WHAT IT READS IS OF BULK AT MOST 1048576: true; the input reads as it did. -/
def graeffeRootsUptoRow : OpenClaim := { program := "ytikemgpeiecdcaadoor", sum := "eaeddb09e2eed073ad006c8ad7c257cd3457ec446a159edd53291a8aa6887d03", func := "annulus/annuluslaw13.GraeffeRoots", spec := "graeffeRoots", named := ["math/bits.deBruijn32tab"], apart := false, laid := [("math/bits.deBruijn32tab", laid_math_bits_deBruijn32tab)], narrowed := true }
def GraeffeRootsUptoSaid : Prop := graeffeRootsUptoRow.holds Tryd.pinned (OpenSpec.upto graeffeRootsSpec)

/-- 'annuluslaw13.GraeffeValues', WHERE WHAT IT READS IS OF BULK AT MOST 1048576: true; the input reads as it did. -/
def graeffeValuesUptoRow : OpenClaim := { program := "ytikemgpeiecdcaadoor", sum := "eaeddb09e2eed073ad006c8ad7c257cd3457ec446a159edd53291a8aa6887d03", func := "annulus/annuluslaw13.GraeffeValues", spec := "graeffeValues", named := ["math/bits.deBruijn32tab"], apart := false, laid := [("math/bits.deBruijn32tab", laid_math_bits_deBruijn32tab)], narrowed := true }
def GraeffeValuesUptoSaid : Prop := graeffeValuesUptoRow.holds Tryd.pinned (OpenSpec.upto graeffeValuesSpec)

/-- 'annuluslaw13.GraeffeProducts', WHERE WHAT IT READS IS OF BULK AT MOST 1048576: true; the input reads as it did. -/
def graeffeProductsUptoRow : OpenClaim := { program := "ytikemgpeiecdcaadoor", sum := "eaeddb09e2eed073ad006c8ad7c257cd3457ec446a159edd53291a8aa6887d03", func := "annulus/annuluslaw13.GraeffeProducts", spec := "graeffeProducts", named := ["math/bits.deBruijn32tab"], apart := false, laid := [("math/bits.deBruijn32tab", laid_math_bits_deBruijn32tab)], narrowed := true }
def GraeffeProductsUptoSaid : Prop := graeffeProductsUptoRow.holds Tryd.pinned (OpenSpec.upto graeffeProductsSpec)

/-- 'annuluslaw13.GraeffeTops', WHERE WHAT IT READS IS OF BULK AT MOST 1048576: true; the input reads as it did. -/
def graeffeTopsUptoRow : OpenClaim := { program := "ytikemgpeiecdcaadoor", sum := "eaeddb09e2eed073ad006c8ad7c257cd3457ec446a159edd53291a8aa6887d03", func := "annulus/annuluslaw13.GraeffeTops", spec := "graeffeTops", named := ["math/bits.deBruijn32tab"], apart := false, laid := [("math/bits.deBruijn32tab", laid_math_bits_deBruijn32tab)], narrowed := true }
def GraeffeTopsUptoSaid : Prop := graeffeTopsUptoRow.holds Tryd.pinned (OpenSpec.upto graeffeTopsSpec)

/-- 'annuluslaw11.PolyRoots', WHERE WHAT IT READS IS OF BULK AT MOST 1048576: true; the input reads as it did. -/
def polyRootsUptoRow : OpenClaim := { program := "ytikemgpeiecdcaadoor", sum := "eaeddb09e2eed073ad006c8ad7c257cd3457ec446a159edd53291a8aa6887d03", func := "annulus/annuluslaw11.PolyRoots", spec := "polyRoots", named := ["math/bits.deBruijn32tab"], apart := false, laid := [("math/bits.deBruijn32tab", laid_math_bits_deBruijn32tab)], narrowed := true }
def PolyRootsUptoSaid : Prop := polyRootsUptoRow.holds Tryd.pinned (OpenSpec.upto polyRootsSpec)

/-- 'annuluslaw11.PolyShifts', WHERE WHAT IT READS IS OF BULK AT MOST 1048576: true; the input reads as it did. -/
def polyShiftsUptoRow : OpenClaim := { program := "ytikemgpeiecdcaadoor", sum := "eaeddb09e2eed073ad006c8ad7c257cd3457ec446a159edd53291a8aa6887d03", func := "annulus/annuluslaw11.PolyShifts", spec := "polyShifts", named := ["math/bits.deBruijn32tab"], apart := false, laid := [("math/bits.deBruijn32tab", laid_math_bits_deBruijn32tab)], narrowed := true }
def PolyShiftsUptoSaid : Prop := polyShiftsUptoRow.holds Tryd.pinned (OpenSpec.upto polyShiftsSpec)

/-- 'annuluslaw11.PolyDegrees', WHERE WHAT IT READS IS OF BULK AT MOST 1048576: true; the input reads as it did. -/
def polyDegreesUptoRow : OpenClaim := { program := "ytikemgpeiecdcaadoor", sum := "eaeddb09e2eed073ad006c8ad7c257cd3457ec446a159edd53291a8aa6887d03", func := "annulus/annuluslaw11.PolyDegrees", spec := "polyDegrees", named := ["math/bits.deBruijn32tab"], apart := false, laid := [("math/bits.deBruijn32tab", laid_math_bits_deBruijn32tab)], narrowed := true }
def PolyDegreesUptoSaid : Prop := polyDegreesUptoRow.holds Tryd.pinned (OpenSpec.upto polyDegreesSpec)

/-- 'annuluslaw11.PolyLaws', WHERE WHAT IT READS IS OF BULK AT MOST 1048576: true; the input reads as it did. -/
def polyLawsUptoRow : OpenClaim := { program := "ytikemgpeiecdcaadoor", sum := "eaeddb09e2eed073ad006c8ad7c257cd3457ec446a159edd53291a8aa6887d03", func := "annulus/annuluslaw11.PolyLaws", spec := "polyLaws", named := ["math/bits.deBruijn32tab"], apart := false, laid := [("math/bits.deBruijn32tab", laid_math_bits_deBruijn32tab)], narrowed := true }
def PolyLawsUptoSaid : Prop := polyLawsUptoRow.holds Tryd.pinned (OpenSpec.upto polyLawsSpec)

end Rows
end Go.Proofs.YtikemgpeiecdcaaDoor
