/-
  DERIVED. GIVEN WITH THE SEED: THE CARDS: each row of YtcnhnabmkfagbaaGreatDoorRows.lean that lists a variable, with what it lists TIED to the program's text (the seventh form; the later family's looks); each row that meets fmt, with fmt's text TOLD by the authors' own Lean function (tested against real Go, not proved from fmt's source: count such statements apart). THE CARD IS WHAT COUNTS. Prove the row's statement (the work); the ties are given (YtcnhnabmkfagbaaGreatDoorTie.lean); close each card by the builder's one call (the guide's Derived/Test/ToyasCard.lean, 'card_holds'). Laid BY PROGRAM, IN A SANDBOX (cutbox-door.mjs). By AI agents, Wed Nov 11 2026. No macro, syntax, notation, axiom, sorry.
-/
import Derived.Test.YtcnhnabmkfagbaaGreatDoorRows
import GoSem.ClaimSeven
namespace Go.Proofs.YtcnhnabmkfagbaaGreatDoor
namespace Rows

/-- THE TIED CARD OF 'annuluslaw15.CountTells'. -/
def countTellsCard : Claim7 := { stood := { row := countTellsRow, standIns := [], harness := (true, "9049654d7cd2433d7e0afc8f8f1a3b9dd7a53dafd6ad84f42c16e13fb8fb518a"), looks := false }, kinds := [], alts := [], laidByText := true, laidKinds := [.data], laidTests := true, laidLooks := .later }
def CountTellsCardSaid : Prop := Claim7.holds Tryz.pinned (.plain (OpenSpec.ofChange countTellsSpec)) countTellsCard

/-- THE TIED CARD OF 'annuluslaw15.CountSure'. -/
def countSureCard : Claim7 := { stood := { row := countSureRow, standIns := [], harness := (true, "9049654d7cd2433d7e0afc8f8f1a3b9dd7a53dafd6ad84f42c16e13fb8fb518a"), looks := false }, kinds := [], alts := [], laidByText := true, laidKinds := [.data], laidTests := true, laidLooks := .later }
def CountSureCardSaid : Prop := Claim7.holds Tryz.pinned (.plain (OpenSpec.ofChange countSureSpec)) countSureCard

/-- THE TIED CARD OF 'annuluslaw15.CountFar'. -/
def countFarCard : Claim7 := { stood := { row := countFarRow, standIns := [], harness := (true, "9049654d7cd2433d7e0afc8f8f1a3b9dd7a53dafd6ad84f42c16e13fb8fb518a"), looks := false }, kinds := [], alts := [], laidByText := true, laidKinds := [.data], laidTests := true, laidLooks := .later }
def CountFarCardSaid : Prop := Claim7.holds Tryz.pinned (.plain (OpenSpec.ofChange countFarSpec)) countFarCard

/-- THE TIED CARD OF 'annuluslaw15.CountUnit'. -/
def countUnitCard : Claim7 := { stood := { row := countUnitRow, standIns := [], harness := (true, "9049654d7cd2433d7e0afc8f8f1a3b9dd7a53dafd6ad84f42c16e13fb8fb518a"), looks := false }, kinds := [], alts := [], laidByText := true, laidKinds := [.data], laidTests := true, laidLooks := .later }
def CountUnitCardSaid : Prop := Claim7.holds Tryz.pinned (.plain (OpenSpec.ofChange countUnitSpec)) countUnitCard

/-- THE TIED CARD OF 'annuluslaw15.CountMore'. -/
def countMoreCard : Claim7 := { stood := { row := countMoreRow, standIns := [], harness := (true, "9049654d7cd2433d7e0afc8f8f1a3b9dd7a53dafd6ad84f42c16e13fb8fb518a"), looks := false }, kinds := [], alts := [], laidByText := true, laidKinds := [.data], laidTests := true, laidLooks := .later }
def CountMoreCardSaid : Prop := Claim7.holds Tryz.pinned (.plain (OpenSpec.ofChange countMoreSpec)) countMoreCard

/-- THE SECOND FORM's CARD OF 'annuluslaw15.CountTells'. -/
def countTellsUptoCard : Claim7 := { stood := { row := countTellsUptoRow, standIns := [], harness := (true, "9049654d7cd2433d7e0afc8f8f1a3b9dd7a53dafd6ad84f42c16e13fb8fb518a"), looks := false }, kinds := [], alts := [], laidByText := true, laidKinds := [.data], laidTests := true, laidLooks := .later }
def CountTellsUptoCardSaid : Prop := Claim7.holds Tryz.pinned (.plain (OpenSpec.upto countTellsSpec)) countTellsUptoCard

/-- THE SECOND FORM's CARD OF 'annuluslaw15.CountSure'. -/
def countSureUptoCard : Claim7 := { stood := { row := countSureUptoRow, standIns := [], harness := (true, "9049654d7cd2433d7e0afc8f8f1a3b9dd7a53dafd6ad84f42c16e13fb8fb518a"), looks := false }, kinds := [], alts := [], laidByText := true, laidKinds := [.data], laidTests := true, laidLooks := .later }
def CountSureUptoCardSaid : Prop := Claim7.holds Tryz.pinned (.plain (OpenSpec.upto countSureSpec)) countSureUptoCard

/-- THE SECOND FORM's CARD OF 'annuluslaw15.CountFar'. -/
def countFarUptoCard : Claim7 := { stood := { row := countFarUptoRow, standIns := [], harness := (true, "9049654d7cd2433d7e0afc8f8f1a3b9dd7a53dafd6ad84f42c16e13fb8fb518a"), looks := false }, kinds := [], alts := [], laidByText := true, laidKinds := [.data], laidTests := true, laidLooks := .later }
def CountFarUptoCardSaid : Prop := Claim7.holds Tryz.pinned (.plain (OpenSpec.upto countFarSpec)) countFarUptoCard

/-- THE SECOND FORM's CARD OF 'annuluslaw15.CountUnit'. -/
def countUnitUptoCard : Claim7 := { stood := { row := countUnitUptoRow, standIns := [], harness := (true, "9049654d7cd2433d7e0afc8f8f1a3b9dd7a53dafd6ad84f42c16e13fb8fb518a"), looks := false }, kinds := [], alts := [], laidByText := true, laidKinds := [.data], laidTests := true, laidLooks := .later }
def CountUnitUptoCardSaid : Prop := Claim7.holds Tryz.pinned (.plain (OpenSpec.upto countUnitSpec)) countUnitUptoCard

/-- THE SECOND FORM's CARD OF 'annuluslaw15.CountMore'. -/
def countMoreUptoCard : Claim7 := { stood := { row := countMoreUptoRow, standIns := [], harness := (true, "9049654d7cd2433d7e0afc8f8f1a3b9dd7a53dafd6ad84f42c16e13fb8fb518a"), looks := false }, kinds := [], alts := [], laidByText := true, laidKinds := [.data], laidTests := true, laidLooks := .later }
def CountMoreUptoCardSaid : Prop := Claim7.holds Tryz.pinned (.plain (OpenSpec.upto countMoreSpec)) countMoreUptoCard
end Rows
end Go.Proofs.YtcnhnabmkfagbaaGreatDoor
