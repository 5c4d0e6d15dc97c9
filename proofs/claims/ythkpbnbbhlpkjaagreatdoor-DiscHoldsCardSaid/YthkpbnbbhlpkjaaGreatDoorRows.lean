/-
  NARROWER THAN 'FOR EVERY INPUT', by the rows' own cells (each row's printed sentence says how): DiscBorders: laid · DiscTells: laid · DiscRects: laid · DiscHolds: laid · PartsTell: laid · PartsApart: laid · PartsRows: laid.
  DERIVED. THE GIVEN ROWS OF THIS SEAT. 7 by the template 'for every input the law returns true; each argument reads behind the call as it read before'; 0 by the template 'total and deterministic' (their statements: YthkpbnbbhlpkjaaGreatDoorTotals.lean).
  GIVEN WITH THE SEED: the statements are not yours to turn. If you find one false, say at which input.
  Laid BY PROGRAM, IN A SANDBOX (cutbox-rows.mjs): the forced cells as the released guide's own fill.sh prints them over the translation 8f21d620e70a4523… (all of the seat's roots in one cut). By AI agents, Wed Nov 11 2026. No macro, syntax, notation, axiom, sorry.
-/
import Derived.Test.YthkpbnbbhlpkjaaGreatDoorChecked
import GoSem.Claim
import GoSem.ClaimJoined
import GoSem.ClaimMapViews
import Derived.JoinedTies
import Derived.KernelRfl
namespace Go.Proofs.YthkpbnbbhlpkjaaGreatDoor
/- THE CELL 'sum', in the pinned program and in every row, IS THE sha256 OF THE DUMP (.gsa) THAT YthkpbnbbhlpkjaaGreatDoorProg.lean LOADS. Nothing in Lean hashes anything: it is a label: what it is worth is what the hold of that sum in a sandbox is worth. -/
noncomputable def Tryz.pinned : Pinned := { name := "ythkpbnbbhlpkjaagreatdoor", sum := "8f21d620e70a452322bbe8b2f6496ab180afaa396e000d8a1d963c39d75034a2", checked := Tryz.checked }
namespace Rows
def none {H : Type} : Left H := { results := [], args := [] }

/- WHAT THE LISTED PACKAGE-LEVEL VARIABLES READ AS WHEN THE CALL BEGINS. Each datum BY PROGRAM (the guide's laid-datum.mjs) off the statement by which the dump's own 'gosem.cut.vars' lays the variable. In a bare row this is a premise. The card (YthkpbnbbhlpkjaaGreatDoorCards.lean) ties it to the program's text. -/
def laid_math_bits_deBruijn32tab {H : Type} : DataW H := .agg [.lit (.int .u8 0), .lit (.int .u8 1), .lit (.int .u8 28), .lit (.int .u8 2), .lit (.int .u8 29), .lit (.int .u8 14), .lit (.int .u8 24), .lit (.int .u8 3), .lit (.int .u8 30), .lit (.int .u8 22), .lit (.int .u8 20), .lit (.int .u8 15), .lit (.int .u8 25), .lit (.int .u8 17), .lit (.int .u8 4), .lit (.int .u8 8), .lit (.int .u8 31), .lit (.int .u8 27), .lit (.int .u8 13), .lit (.int .u8 23), .lit (.int .u8 21), .lit (.int .u8 19), .lit (.int .u8 16), .lit (.int .u8 7), .lit (.int .u8 26), .lit (.int .u8 12), .lit (.int .u8 18), .lit (.int .u8 6), .lit (.int .u8 11), .lit (.int .u8 5), .lit (.int .u8 10), .lit (.int .u8 9)]

/-- 'annuluslaw10.DiscBorders': WHATEVER THE INPUT: true; the input reads as it did. -/
def discBordersSpec : ChangeSpec := { name := "discBorders", fn := fun _ => fun
  | [d1, d2, d3, d4] => { results := [.lit (.bool true)], args := [d1, d2, d3, d4] }
  | _ => none }
def discBordersRow : OpenClaim := { program := "ythkpbnbbhlpkjaagreatdoor", sum := "8f21d620e70a452322bbe8b2f6496ab180afaa396e000d8a1d963c39d75034a2", func := "annulus/annuluslaw10.DiscBorders", spec := "discBorders", named := ["math/bits.deBruijn32tab"], apart := false, laid := [("math/bits.deBruijn32tab", laid_math_bits_deBruijn32tab)] }
def DiscBordersSaid : Prop := discBordersRow.holds Tryz.pinned (OpenSpec.ofChange discBordersSpec)

/-- ITS FALSE NEIGHBOUR: 'it returns false'. Refute it at one input. -/
def discBordersWrong : ChangeSpec := { name := "discBorders", fn := fun _ => fun
  | [d1, d2, d3, d4] => { results := [.lit (.bool false)], args := [d1, d2, d3, d4] }
  | _ => none }
def DiscBordersWrongFalsely : Prop := discBordersRow.holds Tryz.pinned (OpenSpec.ofChange discBordersWrong)

/-- 'annuluslaw10.DiscTells': WHATEVER THE INPUT: true; the input reads as it did. -/
def discTellsSpec : ChangeSpec := { name := "discTells", fn := fun _ => fun
  | [d1, d2, d3, d4, d5] => { results := [.lit (.bool true)], args := [d1, d2, d3, d4, d5] }
  | _ => none }
def discTellsRow : OpenClaim := { program := "ythkpbnbbhlpkjaagreatdoor", sum := "8f21d620e70a452322bbe8b2f6496ab180afaa396e000d8a1d963c39d75034a2", func := "annulus/annuluslaw10.DiscTells", spec := "discTells", named := ["math/bits.deBruijn32tab"], apart := false, laid := [("math/bits.deBruijn32tab", laid_math_bits_deBruijn32tab)] }
def DiscTellsSaid : Prop := discTellsRow.holds Tryz.pinned (OpenSpec.ofChange discTellsSpec)

/-- ITS FALSE NEIGHBOUR: 'it returns false'. Refute it at one input. -/
def discTellsWrong : ChangeSpec := { name := "discTells", fn := fun _ => fun
  | [d1, d2, d3, d4, d5] => { results := [.lit (.bool false)], args := [d1, d2, d3, d4, d5] }
  | _ => none }
def DiscTellsWrongFalsely : Prop := discTellsRow.holds Tryz.pinned (OpenSpec.ofChange discTellsWrong)

/-- 'annuluslaw10.DiscRects': WHATEVER THE INPUT: true; the input reads as it did. -/
def discRectsSpec : ChangeSpec := { name := "discRects", fn := fun _ => fun
  | [d1, d2, d3] => { results := [.lit (.bool true)], args := [d1, d2, d3] }
  | _ => none }
def discRectsRow : OpenClaim := { program := "ythkpbnbbhlpkjaagreatdoor", sum := "8f21d620e70a452322bbe8b2f6496ab180afaa396e000d8a1d963c39d75034a2", func := "annulus/annuluslaw10.DiscRects", spec := "discRects", named := ["math/bits.deBruijn32tab"], apart := false, laid := [("math/bits.deBruijn32tab", laid_math_bits_deBruijn32tab)] }
def DiscRectsSaid : Prop := discRectsRow.holds Tryz.pinned (OpenSpec.ofChange discRectsSpec)

/-- ITS FALSE NEIGHBOUR: 'it returns false'. Refute it at one input. -/
def discRectsWrong : ChangeSpec := { name := "discRects", fn := fun _ => fun
  | [d1, d2, d3] => { results := [.lit (.bool false)], args := [d1, d2, d3] }
  | _ => none }
def DiscRectsWrongFalsely : Prop := discRectsRow.holds Tryz.pinned (OpenSpec.ofChange discRectsWrong)

/-- 'annuluslaw10.DiscHolds': WHATEVER THE INPUT: true; the input reads as it did. -/
def discHoldsSpec : ChangeSpec := { name := "discHolds", fn := fun _ => fun
  | [d1, d2, d3, d4, d5, d6] => { results := [.lit (.bool true)], args := [d1, d2, d3, d4, d5, d6] }
  | _ => none }
def discHoldsRow : OpenClaim := { program := "ythkpbnbbhlpkjaagreatdoor", sum := "8f21d620e70a452322bbe8b2f6496ab180afaa396e000d8a1d963c39d75034a2", func := "annulus/annuluslaw10.DiscHolds", spec := "discHolds", named := ["math/bits.deBruijn32tab"], apart := false, laid := [("math/bits.deBruijn32tab", laid_math_bits_deBruijn32tab)] }
def DiscHoldsSaid : Prop := discHoldsRow.holds Tryz.pinned (OpenSpec.ofChange discHoldsSpec)

/-- ITS FALSE NEIGHBOUR: 'it returns false'. Refute it at one input. -/
def discHoldsWrong : ChangeSpec := { name := "discHolds", fn := fun _ => fun
  | [d1, d2, d3, d4, d5, d6] => { results := [.lit (.bool false)], args := [d1, d2, d3, d4, d5, d6] }
  | _ => none }
def DiscHoldsWrongFalsely : Prop := discHoldsRow.holds Tryz.pinned (OpenSpec.ofChange discHoldsWrong)

/-- 'annuluslaw17.PartsTell': WHATEVER THE INPUT: true; the input reads as it did. -/
def partsTellSpec : ChangeSpec := { name := "partsTell", fn := fun _ => fun
  | [d] => { results := [.lit (.bool true)], args := [d] }
  | _ => none }
def partsTellRow : OpenClaim := { program := "ythkpbnbbhlpkjaagreatdoor", sum := "8f21d620e70a452322bbe8b2f6496ab180afaa396e000d8a1d963c39d75034a2", func := "annulus/annuluslaw17.PartsTell", spec := "partsTell", named := ["math/bits.deBruijn32tab"], apart := false, laid := [("math/bits.deBruijn32tab", laid_math_bits_deBruijn32tab)] }
def PartsTellSaid : Prop := partsTellRow.holds Tryz.pinned (OpenSpec.ofChange partsTellSpec)

/-- ITS FALSE NEIGHBOUR: 'it returns false'. Refute it at one input. -/
def partsTellWrong : ChangeSpec := { name := "partsTell", fn := fun _ => fun
  | [d] => { results := [.lit (.bool false)], args := [d] }
  | _ => none }
def PartsTellWrongFalsely : Prop := partsTellRow.holds Tryz.pinned (OpenSpec.ofChange partsTellWrong)

/-- 'annuluslaw17.PartsApart': WHATEVER THE INPUT: true; the input reads as it did. -/
def partsApartSpec : ChangeSpec := { name := "partsApart", fn := fun _ => fun
  | [d] => { results := [.lit (.bool true)], args := [d] }
  | _ => none }
def partsApartRow : OpenClaim := { program := "ythkpbnbbhlpkjaagreatdoor", sum := "8f21d620e70a452322bbe8b2f6496ab180afaa396e000d8a1d963c39d75034a2", func := "annulus/annuluslaw17.PartsApart", spec := "partsApart", named := ["math/bits.deBruijn32tab"], apart := false, laid := [("math/bits.deBruijn32tab", laid_math_bits_deBruijn32tab)] }
def PartsApartSaid : Prop := partsApartRow.holds Tryz.pinned (OpenSpec.ofChange partsApartSpec)

/-- ITS FALSE NEIGHBOUR: 'it returns false'. Refute it at one input. -/
def partsApartWrong : ChangeSpec := { name := "partsApart", fn := fun _ => fun
  | [d] => { results := [.lit (.bool false)], args := [d] }
  | _ => none }
def PartsApartWrongFalsely : Prop := partsApartRow.holds Tryz.pinned (OpenSpec.ofChange partsApartWrong)

/-- 'annuluslaw17.PartsRows': WHATEVER THE INPUT: true; the input reads as it did. -/
def partsRowsSpec : ChangeSpec := { name := "partsRows", fn := fun _ => fun
  | [d1, d2] => { results := [.lit (.bool true)], args := [d1, d2] }
  | _ => none }
def partsRowsRow : OpenClaim := { program := "ythkpbnbbhlpkjaagreatdoor", sum := "8f21d620e70a452322bbe8b2f6496ab180afaa396e000d8a1d963c39d75034a2", func := "annulus/annuluslaw17.PartsRows", spec := "partsRows", named := ["math/bits.deBruijn32tab"], apart := false, laid := [("math/bits.deBruijn32tab", laid_math_bits_deBruijn32tab)] }
def PartsRowsSaid : Prop := partsRowsRow.holds Tryz.pinned (OpenSpec.ofChange partsRowsSpec)

/-- ITS FALSE NEIGHBOUR: 'it returns false'. Refute it at one input. -/
def partsRowsWrong : ChangeSpec := { name := "partsRows", fn := fun _ => fun
  | [d1, d2] => { results := [.lit (.bool false)], args := [d1, d2] }
  | _ => none }
def PartsRowsWrongFalsely : Prop := partsRowsRow.holds Tryz.pinned (OpenSpec.ofChange partsRowsWrong)

/- THE SECOND FORM. 'bulk': how many values and letters a reading holds, each counted each time it is reached (what is shared counts as often as it is met; a slice's spare places count too). A statement '..UptoSaid' is the law's where the arguments, and the package variables that the reading takes, are together of bulk at most 1048576: NARROWER than '..Said'. Prove '..Said' where nothing that the law and all that it calls make is longer than what came in: it says more and counts as full. Else prove '..UptoSaid'. A law counts once. -/
mutual
def uptoBulk {H : Type} : DataW H → Nat
  | .lit (.string bytes) => bytes.length + 1
  | .lit _ => 1
  | .nil => 1
  | .ptr d => uptoBulk d + 1
  | .slice elems spare => uptoBulkAll elems + uptoBulkAll spare + 1
  | .agg parts => uptoBulkAll parts + 1
  | .iface _ d => uptoBulk d + 1
  | .map entries => uptoBulkEntries entries + 1
  | .held _ => 1
def uptoBulkAll {H : Type} : List (DataW H) → Nat
  | [] => 0
  | d :: r => uptoBulk d + uptoBulkAll r
def uptoBulkEntries {H : Type} : List (Lit × DataW H) → Nat
  | [] => 0
  | x :: r => uptoBulkEntry x + uptoBulkEntries r
def uptoBulkEntry {H : Type} : Lit × DataW H → Nat
  | (.string bytes, d) => bytes.length + uptoBulk d + 1
  | (_, d) => uptoBulk d + 1
 end
def uptoSmall : (H : Type) → List (DataW H) → Bool := fun _ ds => decide (uptoBulkAll ds ≤ 1048576)
def OpenSpec.upto (s : _root_.Go.ChangeSpec) : _root_.Go.OpenSpec := { _root_.Go.OpenSpec.ofChange s with cond := some uptoSmall }

/-- 'annuluslaw10.DiscBorders', WHERE WHAT IT READS IS OF BULK AT MOST 1048576: true; the input reads as it did. -/
def discBordersUptoRow : OpenClaim := { program := "ythkpbnbbhlpkjaagreatdoor", sum := "8f21d620e70a452322bbe8b2f6496ab180afaa396e000d8a1d963c39d75034a2", func := "annulus/annuluslaw10.DiscBorders", spec := "discBorders", named := ["math/bits.deBruijn32tab"], apart := false, laid := [("math/bits.deBruijn32tab", laid_math_bits_deBruijn32tab)], narrowed := true }
def DiscBordersUptoSaid : Prop := discBordersUptoRow.holds Tryz.pinned (OpenSpec.upto discBordersSpec)

/-- 'annuluslaw10.DiscTells', WHERE WHAT IT READS IS OF BULK AT MOST 1048576: true; the input reads as it did. -/
def discTellsUptoRow : OpenClaim := { program := "ythkpbnbbhlpkjaagreatdoor", sum := "8f21d620e70a452322bbe8b2f6496ab180afaa396e000d8a1d963c39d75034a2", func := "annulus/annuluslaw10.DiscTells", spec := "discTells", named := ["math/bits.deBruijn32tab"], apart := false, laid := [("math/bits.deBruijn32tab", laid_math_bits_deBruijn32tab)], narrowed := true }
def DiscTellsUptoSaid : Prop := discTellsUptoRow.holds Tryz.pinned (OpenSpec.upto discTellsSpec)

/-- 'annuluslaw10.DiscRects', WHERE WHAT IT READS IS OF BULK AT MOST 1048576: true; the input reads as it did. -/
def discRectsUptoRow : OpenClaim := { program := "ythkpbnbbhlpkjaagreatdoor", sum := "8f21d620e70a452322bbe8b2f6496ab180afaa396e000d8a1d963c39d75034a2", func := "annulus/annuluslaw10.DiscRects", spec := "discRects", named := ["math/bits.deBruijn32tab"], apart := false, laid := [("math/bits.deBruijn32tab", laid_math_bits_deBruijn32tab)], narrowed := true }
def DiscRectsUptoSaid : Prop := discRectsUptoRow.holds Tryz.pinned (OpenSpec.upto discRectsSpec)

/-- 'annuluslaw10.DiscHolds', WHERE WHAT IT READS IS OF BULK AT MOST 1048576: true; the input reads as it did. -/
def discHoldsUptoRow : OpenClaim := { program := "ythkpbnbbhlpkjaagreatdoor", sum := "8f21d620e70a452322bbe8b2f6496ab180afaa396e000d8a1d963c39d75034a2", func := "annulus/annuluslaw10.DiscHolds", spec := "discHolds", named := ["math/bits.deBruijn32tab"], apart := false, laid := [("math/bits.deBruijn32tab", laid_math_bits_deBruijn32tab)], narrowed := true }
def DiscHoldsUptoSaid : Prop := discHoldsUptoRow.holds Tryz.pinned (OpenSpec.upto discHoldsSpec)

/-- 'annuluslaw17.PartsTell', WHERE WHAT IT READS IS OF BULK AT MOST 1048576: true; the input reads as it did. -/
def partsTellUptoRow : OpenClaim := { program := "ythkpbnbbhlpkjaagreatdoor", sum := "8f21d620e70a452322bbe8b2f6496ab180afaa396e000d8a1d963c39d75034a2", func := "annulus/annuluslaw17.PartsTell", spec := "partsTell", named := ["math/bits.deBruijn32tab"], apart := false, laid := [("math/bits.deBruijn32tab", laid_math_bits_deBruijn32tab)], narrowed := true }
def PartsTellUptoSaid : Prop := partsTellUptoRow.holds Tryz.pinned (OpenSpec.upto partsTellSpec)

/-- 'annuluslaw17.PartsApart', WHERE WHAT IT READS IS OF BULK AT MOST 1048576: true; the input reads as it did. -/
def partsApartUptoRow : OpenClaim := { program := "ythkpbnbbhlpkjaagreatdoor", sum := "8f21d620e70a452322bbe8b2f6496ab180afaa396e000d8a1d963c39d75034a2", func := "annulus/annuluslaw17.PartsApart", spec := "partsApart", named := ["math/bits.deBruijn32tab"], apart := false, laid := [("math/bits.deBruijn32tab", laid_math_bits_deBruijn32tab)], narrowed := true }
def PartsApartUptoSaid : Prop := partsApartUptoRow.holds Tryz.pinned (OpenSpec.upto partsApartSpec)

/-- 'annuluslaw17.PartsRows', WHERE WHAT IT READS IS OF BULK AT MOST 1048576: true; the input reads as it did. -/
def partsRowsUptoRow : OpenClaim := { program := "ythkpbnbbhlpkjaagreatdoor", sum := "8f21d620e70a452322bbe8b2f6496ab180afaa396e000d8a1d963c39d75034a2", func := "annulus/annuluslaw17.PartsRows", spec := "partsRows", named := ["math/bits.deBruijn32tab"], apart := false, laid := [("math/bits.deBruijn32tab", laid_math_bits_deBruijn32tab)], narrowed := true }
def PartsRowsUptoSaid : Prop := partsRowsUptoRow.holds Tryz.pinned (OpenSpec.upto partsRowsSpec)

end Rows
end Go.Proofs.YthkpbnbbhlpkjaaGreatDoor
