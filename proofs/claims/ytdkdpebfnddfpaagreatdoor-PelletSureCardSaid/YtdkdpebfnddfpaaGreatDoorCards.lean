/-
  DERIVED. GIVEN WITH THE SEED: THE CARDS: each row of YtdkdpebfnddfpaaGreatDoorRows.lean that lists a variable, with what it lists TIED to the program's text (the seventh form; the later family's looks); each row that meets fmt, with fmt's text TOLD by the authors' own Lean function (tested against real Go, not proved from fmt's source: count such statements apart). THE CARD IS WHAT COUNTS. Prove the row's statement (the work); the ties are given (YtdkdpebfnddfpaaGreatDoorTie.lean); close each card by the builder's one call (the guide's Derived/Test/ToyasCard.lean, 'card_holds'). Laid BY PROGRAM, IN A SANDBOX (cutbox-door.mjs). By AI agents, Wed Nov 11 2026. No macro, syntax, notation, axiom, sorry.
-/
import Derived.Test.YtdkdpebfnddfpaaGreatDoorRows
import GoSem.ClaimSeven
namespace Go.Proofs.YtdkdpebfnddfpaaGreatDoor
namespace Rows

/-- THE TIED CARD OF 'annuluslaw14.PelletTells'. -/
def pelletTellsCard : Claim7 := { stood := { row := pelletTellsRow, standIns := [], harness := (true, "b77564b12d85fbdc2f46ec9e77a37c5274dbfffaec7e5a696baac1f7044c8544"), looks := false }, kinds := [], alts := [], laidByText := true, laidKinds := [.data], laidTests := true, laidLooks := .later }
def PelletTellsCardSaid : Prop := Claim7.holds Tryz.pinned (.plain (OpenSpec.ofChange pelletTellsSpec)) pelletTellsCard

/-- THE TIED CARD OF 'annuluslaw14.PelletSure'. -/
def pelletSureCard : Claim7 := { stood := { row := pelletSureRow, standIns := [], harness := (true, "b77564b12d85fbdc2f46ec9e77a37c5274dbfffaec7e5a696baac1f7044c8544"), looks := false }, kinds := [], alts := [], laidByText := true, laidKinds := [.data], laidTests := true, laidLooks := .later }
def PelletSureCardSaid : Prop := Claim7.holds Tryz.pinned (.plain (OpenSpec.ofChange pelletSureSpec)) pelletSureCard

/-- THE SECOND FORM's CARD OF 'annuluslaw14.PelletTells'. -/
def pelletTellsUptoCard : Claim7 := { stood := { row := pelletTellsUptoRow, standIns := [], harness := (true, "b77564b12d85fbdc2f46ec9e77a37c5274dbfffaec7e5a696baac1f7044c8544"), looks := false }, kinds := [], alts := [], laidByText := true, laidKinds := [.data], laidTests := true, laidLooks := .later }
def PelletTellsUptoCardSaid : Prop := Claim7.holds Tryz.pinned (.plain (OpenSpec.upto pelletTellsSpec)) pelletTellsUptoCard

/-- THE SECOND FORM's CARD OF 'annuluslaw14.PelletSure'. -/
def pelletSureUptoCard : Claim7 := { stood := { row := pelletSureUptoRow, standIns := [], harness := (true, "b77564b12d85fbdc2f46ec9e77a37c5274dbfffaec7e5a696baac1f7044c8544"), looks := false }, kinds := [], alts := [], laidByText := true, laidKinds := [.data], laidTests := true, laidLooks := .later }
def PelletSureUptoCardSaid : Prop := Claim7.holds Tryz.pinned (.plain (OpenSpec.upto pelletSureSpec)) pelletSureUptoCard
end Rows
end Go.Proofs.YtdkdpebfnddfpaaGreatDoor
