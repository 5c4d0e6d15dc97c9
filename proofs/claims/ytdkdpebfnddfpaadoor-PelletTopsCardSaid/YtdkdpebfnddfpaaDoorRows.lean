/-
  NARROWER THAN 'FOR EVERY INPUT', by the rows' own cells (each row's printed sentence says how): QuotTells: laid · QuotNear: laid · QuotThirds: laid · QuotExact: laid · QuotSides: laid · PelletMore: laid · PelletTops: laid.
  DERIVED. THE GIVEN ROWS OF THIS SEAT. 7 by the template 'for every input the law returns true; each argument reads behind the call as it read before'; 0 by the template 'total and deterministic' (their statements: YtdkdpebfnddfpaaDoorTotals.lean).
  GIVEN WITH THE SEED: the statements are not yours to turn. If you find one false, say at which input.
  Laid BY PROGRAM, IN A SANDBOX (cutbox-rows.mjs): the forced cells as the released guide's own fill.sh prints them over the translation 01e17380a079ee65… (all of the seat's roots in one cut). By AI agents, Wed Nov 11 2026. No macro, syntax, notation, axiom, sorry.
-/
import Derived.Test.YtdkdpebfnddfpaaDoorChecked
import GoSem.Claim
import GoSem.ClaimJoined
import GoSem.ClaimMapViews
import Derived.JoinedTies
import Derived.KernelRfl
namespace Go.Proofs.YtdkdpebfnddfpaaDoor
/- THE CELL 'sum', in the pinned program and in every row, IS THE sha256 OF THE DUMP (.gsa) THAT YtdkdpebfnddfpaaDoorProg.lean LOADS. Nothing in Lean hashes anything: it is a label: what it is worth is what the hold of that sum in a sandbox is worth. -/
noncomputable def Tryd.pinned : Pinned := { name := "ytdkdpebfnddfpaadoor", sum := "01e17380a079ee65fddb65a861dc551d7fab4c6d9e6a4553f049080c4d872052", checked := Tryd.checked }
namespace Rows
def none {H : Type} : Left H := { results := [], args := [] }

/- WHAT THE LISTED PACKAGE-LEVEL VARIABLES READ AS WHEN THE CALL BEGINS. Each datum BY PROGRAM (the guide's laid-datum.mjs) off the statement by which the dump's own 'gosem.cut.vars' lays the variable. In a bare row this is a premise. The card (YtdkdpebfnddfpaaDoorCards.lean) ties it to the program's text. -/
def laid_math_bits_deBruijn32tab {H : Type} : DataW H := .agg [.lit (.int .u8 0), .lit (.int .u8 1), .lit (.int .u8 28), .lit (.int .u8 2), .lit (.int .u8 29), .lit (.int .u8 14), .lit (.int .u8 24), .lit (.int .u8 3), .lit (.int .u8 30), .lit (.int .u8 22), .lit (.int .u8 20), .lit (.int .u8 15), .lit (.int .u8 25), .lit (.int .u8 17), .lit (.int .u8 4), .lit (.int .u8 8), .lit (.int .u8 31), .lit (.int .u8 27), .lit (.int .u8 13), .lit (.int .u8 23), .lit (.int .u8 21), .lit (.int .u8 19), .lit (.int .u8 16), .lit (.int .u8 7), .lit (.int .u8 26), .lit (.int .u8 12), .lit (.int .u8 18), .lit (.int .u8 6), .lit (.int .u8 11), .lit (.int .u8 5), .lit (.int .u8 10), .lit (.int .u8 9)]

/-- 'annuluslaw6.QuotTells': WHATEVER THE INPUT: true; the input reads as it did. -/
def quotTellsSpec : ChangeSpec := { name := "quotTells", fn := fun _ => fun
  | [d1, d2, d3, d4] => { results := [.lit (.bool true)], args := [d1, d2, d3, d4] }
  | _ => none }
def quotTellsRow : OpenClaim := { program := "ytdkdpebfnddfpaadoor", sum := "01e17380a079ee65fddb65a861dc551d7fab4c6d9e6a4553f049080c4d872052", func := "annulus/annuluslaw6.QuotTells", spec := "quotTells", named := ["math/bits.deBruijn32tab"], apart := false, laid := [("math/bits.deBruijn32tab", laid_math_bits_deBruijn32tab)] }
def QuotTellsSaid : Prop := quotTellsRow.holds Tryd.pinned (OpenSpec.ofChange quotTellsSpec)

/-- ITS FALSE NEIGHBOUR: 'it returns false'. Refute it at one input. -/
def quotTellsWrong : ChangeSpec := { name := "quotTells", fn := fun _ => fun
  | [d1, d2, d3, d4] => { results := [.lit (.bool false)], args := [d1, d2, d3, d4] }
  | _ => none }
def QuotTellsWrongFalsely : Prop := quotTellsRow.holds Tryd.pinned (OpenSpec.ofChange quotTellsWrong)

/-- 'annuluslaw6.QuotNear': WHATEVER THE INPUT: true; the input reads as it did. -/
def quotNearSpec : ChangeSpec := { name := "quotNear", fn := fun _ => fun
  | [d1, d2, d3, d4] => { results := [.lit (.bool true)], args := [d1, d2, d3, d4] }
  | _ => none }
def quotNearRow : OpenClaim := { program := "ytdkdpebfnddfpaadoor", sum := "01e17380a079ee65fddb65a861dc551d7fab4c6d9e6a4553f049080c4d872052", func := "annulus/annuluslaw6.QuotNear", spec := "quotNear", named := ["math/bits.deBruijn32tab"], apart := false, laid := [("math/bits.deBruijn32tab", laid_math_bits_deBruijn32tab)] }
def QuotNearSaid : Prop := quotNearRow.holds Tryd.pinned (OpenSpec.ofChange quotNearSpec)

/-- ITS FALSE NEIGHBOUR: 'it returns false'. Refute it at one input. -/
def quotNearWrong : ChangeSpec := { name := "quotNear", fn := fun _ => fun
  | [d1, d2, d3, d4] => { results := [.lit (.bool false)], args := [d1, d2, d3, d4] }
  | _ => none }
def QuotNearWrongFalsely : Prop := quotNearRow.holds Tryd.pinned (OpenSpec.ofChange quotNearWrong)

/-- 'annuluslaw6.QuotThirds': WHATEVER THE INPUT: true; the input reads as it did. -/
def quotThirdsSpec : ChangeSpec := { name := "quotThirds", fn := fun _ => fun
  | [d1, d2] => { results := [.lit (.bool true)], args := [d1, d2] }
  | _ => none }
def quotThirdsRow : OpenClaim := { program := "ytdkdpebfnddfpaadoor", sum := "01e17380a079ee65fddb65a861dc551d7fab4c6d9e6a4553f049080c4d872052", func := "annulus/annuluslaw6.QuotThirds", spec := "quotThirds", named := ["math/bits.deBruijn32tab"], apart := false, laid := [("math/bits.deBruijn32tab", laid_math_bits_deBruijn32tab)] }
def QuotThirdsSaid : Prop := quotThirdsRow.holds Tryd.pinned (OpenSpec.ofChange quotThirdsSpec)

/-- ITS FALSE NEIGHBOUR: 'it returns false'. Refute it at one input. -/
def quotThirdsWrong : ChangeSpec := { name := "quotThirds", fn := fun _ => fun
  | [d1, d2] => { results := [.lit (.bool false)], args := [d1, d2] }
  | _ => none }
def QuotThirdsWrongFalsely : Prop := quotThirdsRow.holds Tryd.pinned (OpenSpec.ofChange quotThirdsWrong)

/-- 'annuluslaw6.QuotExact': WHATEVER THE INPUT: true; the input reads as it did. -/
def quotExactSpec : ChangeSpec := { name := "quotExact", fn := fun _ => fun
  | [d1, d2] => { results := [.lit (.bool true)], args := [d1, d2] }
  | _ => none }
def quotExactRow : OpenClaim := { program := "ytdkdpebfnddfpaadoor", sum := "01e17380a079ee65fddb65a861dc551d7fab4c6d9e6a4553f049080c4d872052", func := "annulus/annuluslaw6.QuotExact", spec := "quotExact", named := ["math/bits.deBruijn32tab"], apart := false, laid := [("math/bits.deBruijn32tab", laid_math_bits_deBruijn32tab)] }
def QuotExactSaid : Prop := quotExactRow.holds Tryd.pinned (OpenSpec.ofChange quotExactSpec)

/-- ITS FALSE NEIGHBOUR: 'it returns false'. Refute it at one input. -/
def quotExactWrong : ChangeSpec := { name := "quotExact", fn := fun _ => fun
  | [d1, d2] => { results := [.lit (.bool false)], args := [d1, d2] }
  | _ => none }
def QuotExactWrongFalsely : Prop := quotExactRow.holds Tryd.pinned (OpenSpec.ofChange quotExactWrong)

/-- 'annuluslaw6.QuotSides': WHATEVER THE INPUT: true; the input reads as it did. -/
def quotSidesSpec : ChangeSpec := { name := "quotSides", fn := fun _ => fun
  | [d1, d2, d3] => { results := [.lit (.bool true)], args := [d1, d2, d3] }
  | _ => none }
def quotSidesRow : OpenClaim := { program := "ytdkdpebfnddfpaadoor", sum := "01e17380a079ee65fddb65a861dc551d7fab4c6d9e6a4553f049080c4d872052", func := "annulus/annuluslaw6.QuotSides", spec := "quotSides", named := ["math/bits.deBruijn32tab"], apart := false, laid := [("math/bits.deBruijn32tab", laid_math_bits_deBruijn32tab)] }
def QuotSidesSaid : Prop := quotSidesRow.holds Tryd.pinned (OpenSpec.ofChange quotSidesSpec)

/-- ITS FALSE NEIGHBOUR: 'it returns false'. Refute it at one input. -/
def quotSidesWrong : ChangeSpec := { name := "quotSides", fn := fun _ => fun
  | [d1, d2, d3] => { results := [.lit (.bool false)], args := [d1, d2, d3] }
  | _ => none }
def QuotSidesWrongFalsely : Prop := quotSidesRow.holds Tryd.pinned (OpenSpec.ofChange quotSidesWrong)

/-- 'annuluslaw14.PelletMore': WHATEVER THE INPUT: true; the input reads as it did. -/
def pelletMoreSpec : ChangeSpec := { name := "pelletMore", fn := fun _ => fun
  | [d1, d2, d3, d4] => { results := [.lit (.bool true)], args := [d1, d2, d3, d4] }
  | _ => none }
def pelletMoreRow : OpenClaim := { program := "ytdkdpebfnddfpaadoor", sum := "01e17380a079ee65fddb65a861dc551d7fab4c6d9e6a4553f049080c4d872052", func := "annulus/annuluslaw14.PelletMore", spec := "pelletMore", named := ["math/bits.deBruijn32tab"], apart := false, laid := [("math/bits.deBruijn32tab", laid_math_bits_deBruijn32tab)] }
def PelletMoreSaid : Prop := pelletMoreRow.holds Tryd.pinned (OpenSpec.ofChange pelletMoreSpec)

/-- ITS FALSE NEIGHBOUR: 'it returns false'. Refute it at one input. -/
def pelletMoreWrong : ChangeSpec := { name := "pelletMore", fn := fun _ => fun
  | [d1, d2, d3, d4] => { results := [.lit (.bool false)], args := [d1, d2, d3, d4] }
  | _ => none }
def PelletMoreWrongFalsely : Prop := pelletMoreRow.holds Tryd.pinned (OpenSpec.ofChange pelletMoreWrong)

/-- 'annuluslaw14.PelletTops': WHATEVER THE INPUT: true; the input reads as it did. -/
def pelletTopsSpec : ChangeSpec := { name := "pelletTops", fn := fun _ => fun
  | [d1, d2, d3] => { results := [.lit (.bool true)], args := [d1, d2, d3] }
  | _ => none }
def pelletTopsRow : OpenClaim := { program := "ytdkdpebfnddfpaadoor", sum := "01e17380a079ee65fddb65a861dc551d7fab4c6d9e6a4553f049080c4d872052", func := "annulus/annuluslaw14.PelletTops", spec := "pelletTops", named := ["math/bits.deBruijn32tab"], apart := false, laid := [("math/bits.deBruijn32tab", laid_math_bits_deBruijn32tab)] }
def PelletTopsSaid : Prop := pelletTopsRow.holds Tryd.pinned (OpenSpec.ofChange pelletTopsSpec)

/-- ITS FALSE NEIGHBOUR: 'it returns false'. Refute it at one input. -/
def pelletTopsWrong : ChangeSpec := { name := "pelletTops", fn := fun _ => fun
  | [d1, d2, d3] => { results := [.lit (.bool false)], args := [d1, d2, d3] }
  | _ => none }
def PelletTopsWrongFalsely : Prop := pelletTopsRow.holds Tryd.pinned (OpenSpec.ofChange pelletTopsWrong)

/- THE SECOND FORM. 'bulk': how many values and letters a reading holds, each counted each time it is reached (what is shared counts as often as it is met; a slice's spare places count too). A statement '..UptoSaid' is the law's where the arguments, and the package variables that the reading takes, are together of bulk at most 1048576: NARROWER than '..Said'. Prove '..Said' where nothing that the law and all that it calls make is longer than what came in: it says more and counts as full. Else prove '..UptoSaid'. A law counts once. -/
mutual
def uptoBulk {H : Type} : DataW H → Nat
  | .lit (.string bytes) => bytes.length + 1
  | .lit _ => 1
  | .nil => 1
  | .ptr d => uptoBulk d + 1
  | .slice elems spare => uptoBulkAll elems + uptoBulkAll spare + 1
  | .agg parts => uptoBulkAll parts + 1
  | .iface _ d => uptoBulk d + 1
  | .map entries => uptoBulkEntries entries + 1
  | .held _ => 1
def uptoBulkAll {H : Type} : List (DataW H) → Nat
  | [] => 0
  | d :: r => uptoBulk d + uptoBulkAll r
def uptoBulkEntries {H : Type} : List (Lit × DataW H) → Nat
  | [] => 0
  | x :: r => uptoBulkEntry x + uptoBulkEntries r
def uptoBulkEntry {H : Type} : Lit × DataW H → Nat
  | (.string bytes, d) => bytes.length + uptoBulk d + 1
  | (_, d) => uptoBulk d + 1
 end
def uptoSmall : (H : Type) → List (DataW H) → Bool := fun _ ds => decide (uptoBulkAll ds ≤ 1048576)
def OpenSpec.upto (s : _root_.Go.ChangeSpec) : _root_.Go.OpenSpec := { _root_.Go.OpenSpec.ofChange s with cond := some uptoSmall }

/-- 'annuluslaw6.QuotTells', WHERE WHAT IT READS IS OF BULK AT MOST 1048576: true; the input reads as it did. -/
def quotTellsUptoRow : OpenClaim := { program := "ytdkdpebfnddfpaadoor", sum := "01e17380a079ee65fddb65a861dc551d7fab4c6d9e6a4553f049080c4d872052", func := "annulus/annuluslaw6.QuotTells", spec := "quotTells", named := ["math/bits.deBruijn32tab"], apart := false, laid := [("math/bits.deBruijn32tab", laid_math_bits_deBruijn32tab)], narrowed := true }
def QuotTellsUptoSaid : Prop := quotTellsUptoRow.holds Tryd.pinned (OpenSpec.upto quotTellsSpec)

/-- 'annuluslaw6.QuotNear', WHERE WHAT IT READS IS OF BULK AT MOST 1048576: true; the input reads as it did. -/
def quotNearUptoRow : OpenClaim := { program := "ytdkdpebfnddfpaadoor", sum := "01e17380a079ee65fddb65a861dc551d7fab4c6d9e6a4553f049080c4d872052", func := "annulus/annuluslaw6.QuotNear", spec := "quotNear", named := ["math/bits.deBruijn32tab"], apart := false, laid := [("math/bits.deBruijn32tab", laid_math_bits_deBruijn32tab)], narrowed := true }
def QuotNearUptoSaid : Prop := quotNearUptoRow.holds Tryd.pinned (OpenSpec.upto quotNearSpec)

/-- 'annuluslaw6.QuotThirds', WHERE WHAT IT READS IS OF BULK AT MOST 1048576: true; the input reads as it did. -/
def quotThirdsUptoRow : OpenClaim := { program := "ytdkdpebfnddfpaadoor", sum := "01e17380a079ee65fddb65a861dc551d7fab4c6d9e6a4553f049080c4d872052", func := "annulus/annuluslaw6.QuotThirds", spec := "quotThirds", named := ["math/bits.deBruijn32tab"], apart := false, laid := [("math/bits.deBruijn32tab", laid_math_bits_deBruijn32tab)], narrowed := true }
def QuotThirdsUptoSaid : Prop := quotThirdsUptoRow.holds Tryd.pinned (OpenSpec.upto quotThirdsSpec)

/-- 'annuluslaw6.QuotExact', WHERE WHAT IT READS IS OF BULK AT MOST 1048576: true; the input reads as it did. -/
def quotExactUptoRow : OpenClaim := { program := "ytdkdpebfnddfpaadoor", sum := "01e17380a079ee65fddb65a861dc551d7fab4c6d9e6a4553f049080c4d872052", func := "annulus/annuluslaw6.QuotExact", spec := "quotExact", named := ["math/bits.deBruijn32tab"], apart := false, laid := [("math/bits.deBruijn32tab", laid_math_bits_deBruijn32tab)], narrowed := true }
def QuotExactUptoSaid : Prop := quotExactUptoRow.holds Tryd.pinned (OpenSpec.upto quotExactSpec)

/-- 'annuluslaw6.QuotSides', WHERE WHAT IT READS IS OF BULK AT MOST 1048576: true; the input reads as it did. -/
def quotSidesUptoRow : OpenClaim := { program := "ytdkdpebfnddfpaadoor", sum := "01e17380a079ee65fddb65a861dc551d7fab4c6d9e6a4553f049080c4d872052", func := "annulus/annuluslaw6.QuotSides", spec := "quotSides", named := ["math/bits.deBruijn32tab"], apart := false, laid := [("math/bits.deBruijn32tab", laid_math_bits_deBruijn32tab)], narrowed := true }
def QuotSidesUptoSaid : Prop := quotSidesUptoRow.holds Tryd.pinned (OpenSpec.upto quotSidesSpec)

/-- 'annuluslaw14.PelletMore', WHERE WHAT IT READS IS OF BULK AT MOST 1048576: true; the input reads as it did. -/
def pelletMoreUptoRow : OpenClaim := { program := "ytdkdpebfnddfpaadoor", sum := "01e17380a079ee65fddb65a861dc551d7fab4c6d9e6a4553f049080c4d872052", func := "annulus/annuluslaw14.PelletMore", spec := "pelletMore", named := ["math/bits.deBruijn32tab"], apart := false, laid := [("math/bits.deBruijn32tab", laid_math_bits_deBruijn32tab)], narrowed := true }
def PelletMoreUptoSaid : Prop := pelletMoreUptoRow.holds Tryd.pinned (OpenSpec.upto pelletMoreSpec)

/-- 'annuluslaw14.PelletTops', WHERE WHAT IT READS IS OF BULK AT MOST 1048576: true; the input reads as it did. -/
def pelletTopsUptoRow : OpenClaim := { program := "ytdkdpebfnddfpaadoor", sum := "01e17380a079ee65fddb65a861dc551d7fab4c6d9e6a4553f049080c4d872052", func := "annulus/annuluslaw14.PelletTops", spec := "pelletTops", named := ["math/bits.deBruijn32tab"], apart := false, laid := [("math/bits.deBruijn32tab", laid_math_bits_deBruijn32tab)], narrowed := true }
def PelletTopsUptoSaid : Prop := pelletTopsUptoRow.holds Tryd.pinned (OpenSpec.upto pelletTopsSpec)

end Rows
end Go.Proofs.YtdkdpebfnddfpaaDoor
