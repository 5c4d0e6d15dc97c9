/-
  DERIVED. GIVEN WITH THE SEED: THE CARDS: each row of YtikhbokeaikcpaaGreatDoorRows.lean that lists a variable, with what it lists TIED to the program's text (the seventh form; the later family's looks); each row that meets fmt, with fmt's text TOLD by the authors' own Lean function (tested against real Go, not proved from fmt's source: count such statements apart). THE CARD IS WHAT COUNTS. Prove the row's statement (the work); the ties are given (YtikhbokeaikcpaaGreatDoorTie.lean); close each card by the builder's one call (the guide's Derived/Test/ToyasCard.lean, 'card_holds'). Laid BY PROGRAM, IN A SANDBOX (cutbox-door.mjs). By AI agents, Wed Nov 11 2026. No macro, syntax, notation, axiom, sorry.
-/
import Derived.Test.YtikhbokeaikcpaaGreatDoorRows
import GoSem.ClaimSeven
namespace Go.Proofs.YtikhbokeaikcpaaGreatDoor
namespace Rows

/-- THE TIED CARD OF 'annuluslaw8.GaussTells'. -/
def gaussTellsCard : Claim7 := { stood := { row := gaussTellsRow, standIns := [], harness := (true, "722b7a7b3c6f8d870602bee52b763f6e25bb6905ab2bceb30c88fd0f560529d6"), looks := false }, kinds := [], alts := [], laidByText := true, laidKinds := [.data], laidTests := true, laidLooks := .later }
def GaussTellsCardSaid : Prop := Claim7.holds Tryz.pinned (.plain (OpenSpec.ofChange gaussTellsSpec)) gaussTellsCard

/-- THE TIED CARD OF 'annuluslaw12.BallsTell'. -/
def ballsTellCard : Claim7 := { stood := { row := ballsTellRow, standIns := [], harness := (true, "722b7a7b3c6f8d870602bee52b763f6e25bb6905ab2bceb30c88fd0f560529d6"), looks := false }, kinds := [], alts := [], laidByText := true, laidKinds := [.data], laidTests := true, laidLooks := .later }
def BallsTellCardSaid : Prop := Claim7.holds Tryz.pinned (.plain (OpenSpec.ofChange ballsTellSpec)) ballsTellCard

/-- THE TIED CARD OF 'annuluslaw12.BallsHold'. -/
def ballsHoldCard : Claim7 := { stood := { row := ballsHoldRow, standIns := [], harness := (true, "722b7a7b3c6f8d870602bee52b763f6e25bb6905ab2bceb30c88fd0f560529d6"), looks := false }, kinds := [], alts := [], laidByText := true, laidKinds := [.data], laidTests := true, laidLooks := .later }
def BallsHoldCardSaid : Prop := Claim7.holds Tryz.pinned (.plain (OpenSpec.ofChange ballsHoldSpec)) ballsHoldCard

/-- THE TIED CARD OF 'annuluslaw12.BallsExact'. -/
def ballsExactCard : Claim7 := { stood := { row := ballsExactRow, standIns := [], harness := (true, "722b7a7b3c6f8d870602bee52b763f6e25bb6905ab2bceb30c88fd0f560529d6"), looks := false }, kinds := [], alts := [], laidByText := true, laidKinds := [.data], laidTests := true, laidLooks := .later }
def BallsExactCardSaid : Prop := Claim7.holds Tryz.pinned (.plain (OpenSpec.ofChange ballsExactSpec)) ballsExactCard

/-- THE SECOND FORM's CARD OF 'annuluslaw8.GaussTells'. -/
def gaussTellsUptoCard : Claim7 := { stood := { row := gaussTellsUptoRow, standIns := [], harness := (true, "722b7a7b3c6f8d870602bee52b763f6e25bb6905ab2bceb30c88fd0f560529d6"), looks := false }, kinds := [], alts := [], laidByText := true, laidKinds := [.data], laidTests := true, laidLooks := .later }
def GaussTellsUptoCardSaid : Prop := Claim7.holds Tryz.pinned (.plain (OpenSpec.upto gaussTellsSpec)) gaussTellsUptoCard

/-- THE SECOND FORM's CARD OF 'annuluslaw12.BallsTell'. -/
def ballsTellUptoCard : Claim7 := { stood := { row := ballsTellUptoRow, standIns := [], harness := (true, "722b7a7b3c6f8d870602bee52b763f6e25bb6905ab2bceb30c88fd0f560529d6"), looks := false }, kinds := [], alts := [], laidByText := true, laidKinds := [.data], laidTests := true, laidLooks := .later }
def BallsTellUptoCardSaid : Prop := Claim7.holds Tryz.pinned (.plain (OpenSpec.upto ballsTellSpec)) ballsTellUptoCard

/-- THE SECOND FORM's CARD OF 'annuluslaw12.BallsHold'. -/
def ballsHoldUptoCard : Claim7 := { stood := { row := ballsHoldUptoRow, standIns := [], harness := (true, "722b7a7b3c6f8d870602bee52b763f6e25bb6905ab2bceb30c88fd0f560529d6"), looks := false }, kinds := [], alts := [], laidByText := true, laidKinds := [.data], laidTests := true, laidLooks := .later }
def BallsHoldUptoCardSaid : Prop := Claim7.holds Tryz.pinned (.plain (OpenSpec.upto ballsHoldSpec)) ballsHoldUptoCard

/-- THE SECOND FORM's CARD OF 'annuluslaw12.BallsExact'. -/
def ballsExactUptoCard : Claim7 := { stood := { row := ballsExactUptoRow, standIns := [], harness := (true, "722b7a7b3c6f8d870602bee52b763f6e25bb6905ab2bceb30c88fd0f560529d6"), looks := false }, kinds := [], alts := [], laidByText := true, laidKinds := [.data], laidTests := true, laidLooks := .later }
def BallsExactUptoCardSaid : Prop := Claim7.holds Tryz.pinned (.plain (OpenSpec.upto ballsExactSpec)) ballsExactUptoCard
end Rows
end Go.Proofs.YtikhbokeaikcpaaGreatDoor
