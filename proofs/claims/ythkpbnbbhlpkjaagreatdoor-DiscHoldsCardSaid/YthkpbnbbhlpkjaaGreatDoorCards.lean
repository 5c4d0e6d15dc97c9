/-
  DERIVED. GIVEN WITH THE SEED: THE CARDS: each row of YthkpbnbbhlpkjaaGreatDoorRows.lean that lists a variable, with what it lists TIED to the program's text (the seventh form; the later family's looks); each row that meets fmt, with fmt's text TOLD by the authors' own Lean function (tested against real Go, not proved from fmt's source: count such statements apart). THE CARD IS WHAT COUNTS. Prove the row's statement (the work); the ties are given (YthkpbnbbhlpkjaaGreatDoorTie.lean); close each card by the builder's one call (the guide's Derived/Test/ToyasCard.lean, 'card_holds'). Laid BY PROGRAM, IN A SANDBOX (cutbox-door.mjs). By AI agents, Wed Nov 11 2026. No macro, syntax, notation, axiom, sorry.
-/
import Derived.Test.YthkpbnbbhlpkjaaGreatDoorRows
import GoSem.ClaimSeven
namespace Go.Proofs.YthkpbnbbhlpkjaaGreatDoor
namespace Rows

/-- THE TIED CARD OF 'annuluslaw10.DiscBorders'. -/
def discBordersCard : Claim7 := { stood := { row := discBordersRow, standIns := [], harness := (true, "003e0efa5b4d228dadf5e2175692c8ec405b2d454ec826e0ed66df9c0dd400d9"), looks := false }, kinds := [], alts := [], laidByText := true, laidKinds := [.data], laidTests := true, laidLooks := .later }
def DiscBordersCardSaid : Prop := Claim7.holds Tryz.pinned (.plain (OpenSpec.ofChange discBordersSpec)) discBordersCard

/-- THE TIED CARD OF 'annuluslaw10.DiscTells'. -/
def discTellsCard : Claim7 := { stood := { row := discTellsRow, standIns := [], harness := (true, "003e0efa5b4d228dadf5e2175692c8ec405b2d454ec826e0ed66df9c0dd400d9"), looks := false }, kinds := [], alts := [], laidByText := true, laidKinds := [.data], laidTests := true, laidLooks := .later }
def DiscTellsCardSaid : Prop := Claim7.holds Tryz.pinned (.plain (OpenSpec.ofChange discTellsSpec)) discTellsCard

/-- THE TIED CARD OF 'annuluslaw10.DiscRects'. -/
def discRectsCard : Claim7 := { stood := { row := discRectsRow, standIns := [], harness := (true, "003e0efa5b4d228dadf5e2175692c8ec405b2d454ec826e0ed66df9c0dd400d9"), looks := false }, kinds := [], alts := [], laidByText := true, laidKinds := [.data], laidTests := true, laidLooks := .later }
def DiscRectsCardSaid : Prop := Claim7.holds Tryz.pinned (.plain (OpenSpec.ofChange discRectsSpec)) discRectsCard

/-- THE TIED CARD OF 'annuluslaw10.DiscHolds'. -/
def discHoldsCard : Claim7 := { stood := { row := discHoldsRow, standIns := [], harness := (true, "003e0efa5b4d228dadf5e2175692c8ec405b2d454ec826e0ed66df9c0dd400d9"), looks := false }, kinds := [], alts := [], laidByText := true, laidKinds := [.data], laidTests := true, laidLooks := .later }
def DiscHoldsCardSaid : Prop := Claim7.holds Tryz.pinned (.plain (OpenSpec.ofChange discHoldsSpec)) discHoldsCard

/-- THE TIED CARD OF 'annuluslaw17.PartsTell'. -/
def partsTellCard : Claim7 := { stood := { row := partsTellRow, standIns := [], harness := (true, "003e0efa5b4d228dadf5e2175692c8ec405b2d454ec826e0ed66df9c0dd400d9"), looks := false }, kinds := [], alts := [], laidByText := true, laidKinds := [.data], laidTests := true, laidLooks := .later }
def PartsTellCardSaid : Prop := Claim7.holds Tryz.pinned (.plain (OpenSpec.ofChange partsTellSpec)) partsTellCard

/-- THE TIED CARD OF 'annuluslaw17.PartsApart'. -/
def partsApartCard : Claim7 := { stood := { row := partsApartRow, standIns := [], harness := (true, "003e0efa5b4d228dadf5e2175692c8ec405b2d454ec826e0ed66df9c0dd400d9"), looks := false }, kinds := [], alts := [], laidByText := true, laidKinds := [.data], laidTests := true, laidLooks := .later }
def PartsApartCardSaid : Prop := Claim7.holds Tryz.pinned (.plain (OpenSpec.ofChange partsApartSpec)) partsApartCard

/-- THE TIED CARD OF 'annuluslaw17.PartsRows'. -/
def partsRowsCard : Claim7 := { stood := { row := partsRowsRow, standIns := [], harness := (true, "003e0efa5b4d228dadf5e2175692c8ec405b2d454ec826e0ed66df9c0dd400d9"), looks := false }, kinds := [], alts := [], laidByText := true, laidKinds := [.data], laidTests := true, laidLooks := .later }
def PartsRowsCardSaid : Prop := Claim7.holds Tryz.pinned (.plain (OpenSpec.ofChange partsRowsSpec)) partsRowsCard

/-- THE SECOND FORM's CARD OF 'annuluslaw10.DiscBorders'. -/
def discBordersUptoCard : Claim7 := { stood := { row := discBordersUptoRow, standIns := [], harness := (true, "003e0efa5b4d228dadf5e2175692c8ec405b2d454ec826e0ed66df9c0dd400d9"), looks := false }, kinds := [], alts := [], laidByText := true, laidKinds := [.data], laidTests := true, laidLooks := .later }
def DiscBordersUptoCardSaid : Prop := Claim7.holds Tryz.pinned (.plain (OpenSpec.upto discBordersSpec)) discBordersUptoCard

/-- THE SECOND FORM's CARD OF 'annuluslaw10.DiscTells'. -/
def discTellsUptoCard : Claim7 := { stood := { row := discTellsUptoRow, standIns := [], harness := (true, "003e0efa5b4d228dadf5e2175692c8ec405b2d454ec826e0ed66df9c0dd400d9"), looks := false }, kinds := [], alts := [], laidByText := true, laidKinds := [.data], laidTests := true, laidLooks := .later }
def DiscTellsUptoCardSaid : Prop := Claim7.holds Tryz.pinned (.plain (OpenSpec.upto discTellsSpec)) discTellsUptoCard

/-- THE SECOND FORM's CARD OF 'annuluslaw10.DiscRects'. -/
def discRectsUptoCard : Claim7 := { stood := { row := discRectsUptoRow, standIns := [], harness := (true, "003e0efa5b4d228dadf5e2175692c8ec405b2d454ec826e0ed66df9c0dd400d9"), looks := false }, kinds := [], alts := [], laidByText := true, laidKinds := [.data], laidTests := true, laidLooks := .later }
def DiscRectsUptoCardSaid : Prop := Claim7.holds Tryz.pinned (.plain (OpenSpec.upto discRectsSpec)) discRectsUptoCard

/-- THE SECOND FORM's CARD OF 'annuluslaw10.DiscHolds'. -/
def discHoldsUptoCard : Claim7 := { stood := { row := discHoldsUptoRow, standIns := [], harness := (true, "003e0efa5b4d228dadf5e2175692c8ec405b2d454ec826e0ed66df9c0dd400d9"), looks := false }, kinds := [], alts := [], laidByText := true, laidKinds := [.data], laidTests := true, laidLooks := .later }
def DiscHoldsUptoCardSaid : Prop := Claim7.holds Tryz.pinned (.plain (OpenSpec.upto discHoldsSpec)) discHoldsUptoCard

/-- THE SECOND FORM's CARD OF 'annuluslaw17.PartsTell'. -/
def partsTellUptoCard : Claim7 := { stood := { row := partsTellUptoRow, standIns := [], harness := (true, "003e0efa5b4d228dadf5e2175692c8ec405b2d454ec826e0ed66df9c0dd400d9"), looks := false }, kinds := [], alts := [], laidByText := true, laidKinds := [.data], laidTests := true, laidLooks := .later }
def PartsTellUptoCardSaid : Prop := Claim7.holds Tryz.pinned (.plain (OpenSpec.upto partsTellSpec)) partsTellUptoCard

/-- THE SECOND FORM's CARD OF 'annuluslaw17.PartsApart'. -/
def partsApartUptoCard : Claim7 := { stood := { row := partsApartUptoRow, standIns := [], harness := (true, "003e0efa5b4d228dadf5e2175692c8ec405b2d454ec826e0ed66df9c0dd400d9"), looks := false }, kinds := [], alts := [], laidByText := true, laidKinds := [.data], laidTests := true, laidLooks := .later }
def PartsApartUptoCardSaid : Prop := Claim7.holds Tryz.pinned (.plain (OpenSpec.upto partsApartSpec)) partsApartUptoCard

/-- THE SECOND FORM's CARD OF 'annuluslaw17.PartsRows'. -/
def partsRowsUptoCard : Claim7 := { stood := { row := partsRowsUptoRow, standIns := [], harness := (true, "003e0efa5b4d228dadf5e2175692c8ec405b2d454ec826e0ed66df9c0dd400d9"), looks := false }, kinds := [], alts := [], laidByText := true, laidKinds := [.data], laidTests := true, laidLooks := .later }
def PartsRowsUptoCardSaid : Prop := Claim7.holds Tryz.pinned (.plain (OpenSpec.upto partsRowsSpec)) partsRowsUptoCard
end Rows
end Go.Proofs.YthkpbnbbhlpkjaaGreatDoor
