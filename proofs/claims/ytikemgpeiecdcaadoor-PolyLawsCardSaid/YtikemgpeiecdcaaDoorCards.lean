/-
  DERIVED. GIVEN WITH THE SEED: THE CARDS: each row of YtikemgpeiecdcaaDoorRows.lean that lists a variable, with what it lists TIED to the program's text (the seventh form; the later family's looks); each row that meets fmt, with fmt's text TOLD by the authors' own Lean function (tested against real Go, not proved from fmt's source: count such statements apart). THE CARD IS WHAT COUNTS. Prove the row's statement (the work); the ties are given (YtikemgpeiecdcaaDoorTie.lean); close each card by the builder's one call (the guide's Derived/Test/ToyasCard.lean, 'card_holds'). Laid BY PROGRAM, IN A SANDBOX (cutbox-door.mjs). By AI agents, Wed Nov 11 2026. No macro, syntax, notation, axiom, sorry.
-/
import Derived.Test.YtikemgpeiecdcaaDoorRows
import GoSem.ClaimSeven
namespace Go.Proofs.YtikemgpeiecdcaaDoor
namespace Rows

/-- THE TIED CARD OF 'annuluslaw13.GraeffeTells'. -/
def graeffeTellsCard : Claim7 := { stood := { row := graeffeTellsRow, standIns := [], harness := (true, "8063f14aa64ae9e6bf4a2bf1d194657993f1b940ce987452a045ca8c86268d6c"), looks := false }, kinds := [], alts := [], laidByText := true, laidKinds := [.data], laidTests := true, laidLooks := .later }
def GraeffeTellsCardSaid : Prop := Claim7.holds Tryd.pinned (.plain (OpenSpec.ofChange graeffeTellsSpec)) graeffeTellsCard

/-- THE TIED CARD OF 'annuluslaw13.GraeffeRoots'. -/
def graeffeRootsCard : Claim7 := { stood := { row := graeffeRootsRow, standIns := [], harness := (true, "8063f14aa64ae9e6bf4a2bf1d194657993f1b940ce987452a045ca8c86268d6c"), looks := false }, kinds := [], alts := [], laidByText := true, laidKinds := [.data], laidTests := true, laidLooks := .later }
def GraeffeRootsCardSaid : Prop := Claim7.holds Tryd.pinned (.plain (OpenSpec.ofChange graeffeRootsSpec)) graeffeRootsCard

/-- THE TIED CARD OF 'annuluslaw13.GraeffeValues'. -/
def graeffeValuesCard : Claim7 := { stood := { row := graeffeValuesRow, standIns := [], harness := (true, "8063f14aa64ae9e6bf4a2bf1d194657993f1b940ce987452a045ca8c86268d6c"), looks := false }, kinds := [], alts := [], laidByText := true, laidKinds := [.data], laidTests := true, laidLooks := .later }
def GraeffeValuesCardSaid : Prop := Claim7.holds Tryd.pinned (.plain (OpenSpec.ofChange graeffeValuesSpec)) graeffeValuesCard

/-- THE TIED CARD OF 'annuluslaw13.GraeffeProducts'. -/
def graeffeProductsCard : Claim7 := { stood := { row := graeffeProductsRow, standIns := [], harness := (true, "8063f14aa64ae9e6bf4a2bf1d194657993f1b940ce987452a045ca8c86268d6c"), looks := false }, kinds := [], alts := [], laidByText := true, laidKinds := [.data], laidTests := true, laidLooks := .later }
def GraeffeProductsCardSaid : Prop := Claim7.holds Tryd.pinned (.plain (OpenSpec.ofChange graeffeProductsSpec)) graeffeProductsCard

/-- THE TIED CARD OF 'annuluslaw13.GraeffeTops'. -/
def graeffeTopsCard : Claim7 := { stood := { row := graeffeTopsRow, standIns := [], harness := (true, "8063f14aa64ae9e6bf4a2bf1d194657993f1b940ce987452a045ca8c86268d6c"), looks := false }, kinds := [], alts := [], laidByText := true, laidKinds := [.data], laidTests := true, laidLooks := .later }
def GraeffeTopsCardSaid : Prop := Claim7.holds Tryd.pinned (.plain (OpenSpec.ofChange graeffeTopsSpec)) graeffeTopsCard

/-- THE TIED CARD OF 'annuluslaw11.PolyRoots'. -/
def polyRootsCard : Claim7 := { stood := { row := polyRootsRow, standIns := [], harness := (true, "8063f14aa64ae9e6bf4a2bf1d194657993f1b940ce987452a045ca8c86268d6c"), looks := false }, kinds := [], alts := [], laidByText := true, laidKinds := [.data], laidTests := true, laidLooks := .later }
def PolyRootsCardSaid : Prop := Claim7.holds Tryd.pinned (.plain (OpenSpec.ofChange polyRootsSpec)) polyRootsCard

/-- THE TIED CARD OF 'annuluslaw11.PolyShifts'. -/
def polyShiftsCard : Claim7 := { stood := { row := polyShiftsRow, standIns := [], harness := (true, "8063f14aa64ae9e6bf4a2bf1d194657993f1b940ce987452a045ca8c86268d6c"), looks := false }, kinds := [], alts := [], laidByText := true, laidKinds := [.data], laidTests := true, laidLooks := .later }
def PolyShiftsCardSaid : Prop := Claim7.holds Tryd.pinned (.plain (OpenSpec.ofChange polyShiftsSpec)) polyShiftsCard

/-- THE TIED CARD OF 'annuluslaw11.PolyDegrees'. -/
def polyDegreesCard : Claim7 := { stood := { row := polyDegreesRow, standIns := [], harness := (true, "8063f14aa64ae9e6bf4a2bf1d194657993f1b940ce987452a045ca8c86268d6c"), looks := false }, kinds := [], alts := [], laidByText := true, laidKinds := [.data], laidTests := true, laidLooks := .later }
def PolyDegreesCardSaid : Prop := Claim7.holds Tryd.pinned (.plain (OpenSpec.ofChange polyDegreesSpec)) polyDegreesCard

/-- THE TIED CARD OF 'annuluslaw11.PolyLaws'. -/
def polyLawsCard : Claim7 := { stood := { row := polyLawsRow, standIns := [], harness := (true, "8063f14aa64ae9e6bf4a2bf1d194657993f1b940ce987452a045ca8c86268d6c"), looks := false }, kinds := [], alts := [], laidByText := true, laidKinds := [.data], laidTests := true, laidLooks := .later }
def PolyLawsCardSaid : Prop := Claim7.holds Tryd.pinned (.plain (OpenSpec.ofChange polyLawsSpec)) polyLawsCard

/-- THE SECOND FORM's CARD OF 'annuluslaw13.GraeffeTells'. -/
def graeffeTellsUptoCard : Claim7 := { stood := { row := graeffeTellsUptoRow, standIns := [], harness := (true, "8063f14aa64ae9e6bf4a2bf1d194657993f1b940ce987452a045ca8c86268d6c"), looks := false }, kinds := [], alts := [], laidByText := true, laidKinds := [.data], laidTests := true, laidLooks := .later }
def GraeffeTellsUptoCardSaid : Prop := Claim7.holds Tryd.pinned (.plain (OpenSpec.upto graeffeTellsSpec)) graeffeTellsUptoCard

/-- THE SECOND FORM's CARD OF 'annuluslaw13.GraeffeRoots'. -/
def graeffeRootsUptoCard : Claim7 := { stood := { row := graeffeRootsUptoRow, standIns := [], harness := (true, "8063f14aa64ae9e6bf4a2bf1d194657993f1b940ce987452a045ca8c86268d6c"), looks := false }, kinds := [], alts := [], laidByText := true, laidKinds := [.data], laidTests := true, laidLooks := .later }
def GraeffeRootsUptoCardSaid : Prop := Claim7.holds Tryd.pinned (.plain (OpenSpec.upto graeffeRootsSpec)) graeffeRootsUptoCard

/-- THE SECOND FORM's CARD OF 'annuluslaw13.GraeffeValues'. -/
def graeffeValuesUptoCard : Claim7 := { stood := { row := graeffeValuesUptoRow, standIns := [], harness := (true, "8063f14aa64ae9e6bf4a2bf1d194657993f1b940ce987452a045ca8c86268d6c"), looks := false }, kinds := [], alts := [], laidByText := true, laidKinds := [.data], laidTests := true, laidLooks := .later }
def GraeffeValuesUptoCardSaid : Prop := Claim7.holds Tryd.pinned (.plain (OpenSpec.upto graeffeValuesSpec)) graeffeValuesUptoCard

/-- THE SECOND FORM's CARD OF 'annuluslaw13.GraeffeProducts'. -/
def graeffeProductsUptoCard : Claim7 := { stood := { row := graeffeProductsUptoRow, standIns := [], harness := (true, "8063f14aa64ae9e6bf4a2bf1d194657993f1b940ce987452a045ca8c86268d6c"), looks := false }, kinds := [], alts := [], laidByText := true, laidKinds := [.data], laidTests := true, laidLooks := .later }
def GraeffeProductsUptoCardSaid : Prop := Claim7.holds Tryd.pinned (.plain (OpenSpec.upto graeffeProductsSpec)) graeffeProductsUptoCard

/-- THE SECOND FORM's CARD OF 'annuluslaw13.GraeffeTops'. -/
def graeffeTopsUptoCard : Claim7 := { stood := { row := graeffeTopsUptoRow, standIns := [], harness := (true, "8063f14aa64ae9e6bf4a2bf1d194657993f1b940ce987452a045ca8c86268d6c"), looks := false }, kinds := [], alts := [], laidByText := true, laidKinds := [.data], laidTests := true, laidLooks := .later }
def GraeffeTopsUptoCardSaid : Prop := Claim7.holds Tryd.pinned (.plain (OpenSpec.upto graeffeTopsSpec)) graeffeTopsUptoCard

/-- THE SECOND FORM's CARD OF 'annuluslaw11.PolyRoots'. -/
def polyRootsUptoCard : Claim7 := { stood := { row := polyRootsUptoRow, standIns := [], harness := (true, "8063f14aa64ae9e6bf4a2bf1d194657993f1b940ce987452a045ca8c86268d6c"), looks := false }, kinds := [], alts := [], laidByText := true, laidKinds := [.data], laidTests := true, laidLooks := .later }
def PolyRootsUptoCardSaid : Prop := Claim7.holds Tryd.pinned (.plain (OpenSpec.upto polyRootsSpec)) polyRootsUptoCard

/-- THE SECOND FORM's CARD OF 'annuluslaw11.PolyShifts'. -/
def polyShiftsUptoCard : Claim7 := { stood := { row := polyShiftsUptoRow, standIns := [], harness := (true, "8063f14aa64ae9e6bf4a2bf1d194657993f1b940ce987452a045ca8c86268d6c"), looks := false }, kinds := [], alts := [], laidByText := true, laidKinds := [.data], laidTests := true, laidLooks := .later }
def PolyShiftsUptoCardSaid : Prop := Claim7.holds Tryd.pinned (.plain (OpenSpec.upto polyShiftsSpec)) polyShiftsUptoCard

/-- THE SECOND FORM's CARD OF 'annuluslaw11.PolyDegrees'. -/
def polyDegreesUptoCard : Claim7 := { stood := { row := polyDegreesUptoRow, standIns := [], harness := (true, "8063f14aa64ae9e6bf4a2bf1d194657993f1b940ce987452a045ca8c86268d6c"), looks := false }, kinds := [], alts := [], laidByText := true, laidKinds := [.data], laidTests := true, laidLooks := .later }
def PolyDegreesUptoCardSaid : Prop := Claim7.holds Tryd.pinned (.plain (OpenSpec.upto polyDegreesSpec)) polyDegreesUptoCard

/-- THE SECOND FORM's CARD OF 'annuluslaw11.PolyLaws'. -/
def polyLawsUptoCard : Claim7 := { stood := { row := polyLawsUptoRow, standIns := [], harness := (true, "8063f14aa64ae9e6bf4a2bf1d194657993f1b940ce987452a045ca8c86268d6c"), looks := false }, kinds := [], alts := [], laidByText := true, laidKinds := [.data], laidTests := true, laidLooks := .later }
def PolyLawsUptoCardSaid : Prop := Claim7.holds Tryd.pinned (.plain (OpenSpec.upto polyLawsSpec)) polyLawsUptoCard
end Rows
end Go.Proofs.YtikemgpeiecdcaaDoor
