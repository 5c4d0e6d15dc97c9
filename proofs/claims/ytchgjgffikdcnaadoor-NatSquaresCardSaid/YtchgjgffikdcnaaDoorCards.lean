/-
  DERIVED. GIVEN WITH THE SEED: THE CARDS: each row of YtchgjgffikdcnaaDoorRows.lean that lists a variable, with what it lists TIED to the program's text (the seventh form; the later family's looks); each row that meets fmt, with fmt's text TOLD by the authors' own Lean function (tested against real Go, not proved from fmt's source: count such statements apart). THE CARD IS WHAT COUNTS. Prove the row's statement (the work); the ties are given (YtchgjgffikdcnaaDoorTie.lean); close each card by the builder's one call (the guide's Derived/Test/ToyasCard.lean, 'card_holds'). Laid BY PROGRAM, IN A SANDBOX (cutbox-door.mjs). By AI agents, Wed Nov 11 2026. No macro, syntax, notation, axiom, sorry.
-/
import Derived.Test.YtchgjgffikdcnaaDoorRows
import GoSem.ClaimSeven
namespace Go.Proofs.YtchgjgffikdcnaaDoor
namespace Rows

/-- THE TIED CARD OF 'annuluslaw1.NatShifts'. -/
def natShiftsCard : Claim7 := { stood := { row := natShiftsRow, standIns := [], harness := (true, "c572afebb595bd6b6751fb897c3b8d2c3052f9ff0178031b3bea2d33e793ebf2"), looks := false }, kinds := [], alts := [], laidByText := true, laidKinds := [.data], laidTests := true, laidLooks := .later }
def NatShiftsCardSaid : Prop := Claim7.holds Tryd.pinned (.plain (OpenSpec.ofChange natShiftsSpec)) natShiftsCard

/-- THE TIED CARD OF 'annuluslaw1.NatOrder'. -/
def natOrderCard : Claim7 := { stood := { row := natOrderRow, standIns := [], harness := (true, "c572afebb595bd6b6751fb897c3b8d2c3052f9ff0178031b3bea2d33e793ebf2"), looks := false }, kinds := [], alts := [], laidByText := true, laidKinds := [.data], laidTests := true, laidLooks := .later }
def NatOrderCardSaid : Prop := Claim7.holds Tryd.pinned (.plain (OpenSpec.ofChange natOrderSpec)) natOrderCard

/-- THE TIED CARD OF 'annuluslaw1.NatLong'. -/
def natLongCard : Claim7 := { stood := { row := natLongRow, standIns := [], harness := (true, "c572afebb595bd6b6751fb897c3b8d2c3052f9ff0178031b3bea2d33e793ebf2"), looks := false }, kinds := [], alts := [], laidByText := true, laidKinds := [.data], laidTests := true, laidLooks := .later }
def NatLongCardSaid : Prop := Claim7.holds Tryd.pinned (.plain (OpenSpec.ofChange natLongSpec)) natLongCard

/-- THE TIED CARD OF 'annuluslaw1.NatTells'. -/
def natTellsCard : Claim7 := { stood := { row := natTellsRow, standIns := [], harness := (true, "c572afebb595bd6b6751fb897c3b8d2c3052f9ff0178031b3bea2d33e793ebf2"), looks := false }, kinds := [], alts := [], laidByText := true, laidKinds := [.data], laidTests := true, laidLooks := .later }
def NatTellsCardSaid : Prop := Claim7.holds Tryd.pinned (.plain (OpenSpec.ofChange natTellsSpec)) natTellsCard

/-- THE TIED CARD OF 'annuluslaw1.NatBack'. -/
def natBackCard : Claim7 := { stood := { row := natBackRow, standIns := [], harness := (true, "c572afebb595bd6b6751fb897c3b8d2c3052f9ff0178031b3bea2d33e793ebf2"), looks := false }, kinds := [], alts := [], laidByText := true, laidKinds := [.data], laidTests := true, laidLooks := .later }
def NatBackCardSaid : Prop := Claim7.holds Tryd.pinned (.plain (OpenSpec.ofChange natBackSpec)) natBackCard

/-- THE TIED CARD OF 'annuluslaw1.NatRoots'. -/
def natRootsCard : Claim7 := { stood := { row := natRootsRow, standIns := [], harness := (true, "c572afebb595bd6b6751fb897c3b8d2c3052f9ff0178031b3bea2d33e793ebf2"), looks := false }, kinds := [], alts := [], laidByText := true, laidKinds := [.data], laidTests := true, laidLooks := .later }
def NatRootsCardSaid : Prop := Claim7.holds Tryd.pinned (.plain (OpenSpec.ofChange natRootsSpec)) natRootsCard

/-- THE TIED CARD OF 'annuluslaw1.NatSquares'. -/
def natSquaresCard : Claim7 := { stood := { row := natSquaresRow, standIns := [], harness := (true, "c572afebb595bd6b6751fb897c3b8d2c3052f9ff0178031b3bea2d33e793ebf2"), looks := false }, kinds := [], alts := [], laidByText := true, laidKinds := [.data], laidTests := true, laidLooks := .later }
def NatSquaresCardSaid : Prop := Claim7.holds Tryd.pinned (.plain (OpenSpec.ofChange natSquaresSpec)) natSquaresCard

/-- THE SECOND FORM's CARD OF 'annuluslaw1.NatShifts'. -/
def natShiftsUptoCard : Claim7 := { stood := { row := natShiftsUptoRow, standIns := [], harness := (true, "c572afebb595bd6b6751fb897c3b8d2c3052f9ff0178031b3bea2d33e793ebf2"), looks := false }, kinds := [], alts := [], laidByText := true, laidKinds := [.data], laidTests := true, laidLooks := .later }
def NatShiftsUptoCardSaid : Prop := Claim7.holds Tryd.pinned (.plain (OpenSpec.upto natShiftsSpec)) natShiftsUptoCard

/-- THE SECOND FORM's CARD OF 'annuluslaw1.NatOrder'. -/
def natOrderUptoCard : Claim7 := { stood := { row := natOrderUptoRow, standIns := [], harness := (true, "c572afebb595bd6b6751fb897c3b8d2c3052f9ff0178031b3bea2d33e793ebf2"), looks := false }, kinds := [], alts := [], laidByText := true, laidKinds := [.data], laidTests := true, laidLooks := .later }
def NatOrderUptoCardSaid : Prop := Claim7.holds Tryd.pinned (.plain (OpenSpec.upto natOrderSpec)) natOrderUptoCard

/-- THE SECOND FORM's CARD OF 'annuluslaw1.NatLong'. -/
def natLongUptoCard : Claim7 := { stood := { row := natLongUptoRow, standIns := [], harness := (true, "c572afebb595bd6b6751fb897c3b8d2c3052f9ff0178031b3bea2d33e793ebf2"), looks := false }, kinds := [], alts := [], laidByText := true, laidKinds := [.data], laidTests := true, laidLooks := .later }
def NatLongUptoCardSaid : Prop := Claim7.holds Tryd.pinned (.plain (OpenSpec.upto natLongSpec)) natLongUptoCard

/-- THE SECOND FORM's CARD OF 'annuluslaw1.NatTells'. -/
def natTellsUptoCard : Claim7 := { stood := { row := natTellsUptoRow, standIns := [], harness := (true, "c572afebb595bd6b6751fb897c3b8d2c3052f9ff0178031b3bea2d33e793ebf2"), looks := false }, kinds := [], alts := [], laidByText := true, laidKinds := [.data], laidTests := true, laidLooks := .later }
def NatTellsUptoCardSaid : Prop := Claim7.holds Tryd.pinned (.plain (OpenSpec.upto natTellsSpec)) natTellsUptoCard

/-- THE SECOND FORM's CARD OF 'annuluslaw1.NatBack'. -/
def natBackUptoCard : Claim7 := { stood := { row := natBackUptoRow, standIns := [], harness := (true, "c572afebb595bd6b6751fb897c3b8d2c3052f9ff0178031b3bea2d33e793ebf2"), looks := false }, kinds := [], alts := [], laidByText := true, laidKinds := [.data], laidTests := true, laidLooks := .later }
def NatBackUptoCardSaid : Prop := Claim7.holds Tryd.pinned (.plain (OpenSpec.upto natBackSpec)) natBackUptoCard

/-- THE SECOND FORM's CARD OF 'annuluslaw1.NatRoots'. -/
def natRootsUptoCard : Claim7 := { stood := { row := natRootsUptoRow, standIns := [], harness := (true, "c572afebb595bd6b6751fb897c3b8d2c3052f9ff0178031b3bea2d33e793ebf2"), looks := false }, kinds := [], alts := [], laidByText := true, laidKinds := [.data], laidTests := true, laidLooks := .later }
def NatRootsUptoCardSaid : Prop := Claim7.holds Tryd.pinned (.plain (OpenSpec.upto natRootsSpec)) natRootsUptoCard

/-- THE SECOND FORM's CARD OF 'annuluslaw1.NatSquares'. -/
def natSquaresUptoCard : Claim7 := { stood := { row := natSquaresUptoRow, standIns := [], harness := (true, "c572afebb595bd6b6751fb897c3b8d2c3052f9ff0178031b3bea2d33e793ebf2"), looks := false }, kinds := [], alts := [], laidByText := true, laidKinds := [.data], laidTests := true, laidLooks := .later }
def NatSquaresUptoCardSaid : Prop := Claim7.holds Tryd.pinned (.plain (OpenSpec.upto natSquaresSpec)) natSquaresUptoCard
end Rows
end Go.Proofs.YtchgjgffikdcnaaDoor
