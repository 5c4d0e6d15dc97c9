/-
  DERIVED. GIVEN WITH THE SEED: THE CARDS: each row of YtikemgpeiecdcaaGreatDoorRows.lean that lists a variable, with what it lists TIED to the program's text (the seventh form; the later family's looks); each row that meets fmt, with fmt's text TOLD by the authors' own Lean function (tested against real Go, not proved from fmt's source: count such statements apart). THE CARD IS WHAT COUNTS. Prove the row's statement (the work); the ties are given (YtikemgpeiecdcaaGreatDoorTie.lean); close each card by the builder's one call (the guide's Derived/Test/ToyasCard.lean, 'card_holds'). Laid BY PROGRAM, IN A SANDBOX (cutbox-door.mjs). By AI agents, Wed Nov 11 2026. No macro, syntax, notation, axiom, sorry.
-/
import Derived.Test.YtikemgpeiecdcaaGreatDoorRows
import GoSem.ClaimSeven
namespace Go.Proofs.YtikemgpeiecdcaaGreatDoor
namespace Rows

/-- THE TIED CARD OF 'annuluslaw11.PolyTells'. -/
def polyTellsCard : Claim7 := { stood := { row := polyTellsRow, standIns := [], harness := (true, "bf6a90c098e3dbf2c0ba3b59661d64cb1379f576accd5b364c9f0dea9f6e8fe6"), looks := false }, kinds := [], alts := [], laidByText := true, laidKinds := [.data], laidTests := true, laidLooks := .later }
def PolyTellsCardSaid : Prop := Claim7.holds Tryz.pinned (.plain (OpenSpec.ofChange polyTellsSpec)) polyTellsCard

/-- THE SECOND FORM's CARD OF 'annuluslaw11.PolyTells'. -/
def polyTellsUptoCard : Claim7 := { stood := { row := polyTellsUptoRow, standIns := [], harness := (true, "bf6a90c098e3dbf2c0ba3b59661d64cb1379f576accd5b364c9f0dea9f6e8fe6"), looks := false }, kinds := [], alts := [], laidByText := true, laidKinds := [.data], laidTests := true, laidLooks := .later }
def PolyTellsUptoCardSaid : Prop := Claim7.holds Tryz.pinned (.plain (OpenSpec.upto polyTellsSpec)) polyTellsUptoCard
end Rows
end Go.Proofs.YtikemgpeiecdcaaGreatDoor
