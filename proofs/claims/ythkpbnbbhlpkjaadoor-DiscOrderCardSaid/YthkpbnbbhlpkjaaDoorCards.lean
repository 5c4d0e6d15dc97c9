/-
  DERIVED. GIVEN WITH THE SEED: THE CARDS: each row of YthkpbnbbhlpkjaaDoorRows.lean that lists a variable, with what it lists TIED to the program's text (the seventh form; the later family's looks); each row that meets fmt, with fmt's text TOLD by the authors' own Lean function (tested against real Go, not proved from fmt's source: count such statements apart). THE CARD IS WHAT COUNTS. Prove the row's statement (the work); the ties are given (YthkpbnbbhlpkjaaDoorTie.lean); close each card by the builder's one call (the guide's Derived/Test/ToyasCard.lean, 'card_holds'). Laid BY PROGRAM, IN A SANDBOX (cutbox-door.mjs). By AI agents, Wed Nov 11 2026. No macro, syntax, notation, axiom, sorry.
-/
import Derived.Test.YthkpbnbbhlpkjaaDoorRows
import GoSem.ClaimSeven
namespace Go.Proofs.YthkpbnbbhlpkjaaDoor
namespace Rows

/-- THE TIED CARD OF 'annuluslaw10.DiscOrder'. -/
def discOrderCard : Claim7 := { stood := { row := discOrderRow, standIns := [], harness := (true, "c7dcb6c7ee3a2dd01441caf0d31e14d5df78667a90996f1fa6e16ba99f4b08f6"), looks := false }, kinds := [], alts := [], laidByText := true, laidKinds := [.data], laidTests := true, laidLooks := .later }
def DiscOrderCardSaid : Prop := Claim7.holds Tryd.pinned (.plain (OpenSpec.ofChange discOrderSpec)) discOrderCard

/-- THE SECOND FORM's CARD OF 'annuluslaw10.DiscOrder'. -/
def discOrderUptoCard : Claim7 := { stood := { row := discOrderUptoRow, standIns := [], harness := (true, "c7dcb6c7ee3a2dd01441caf0d31e14d5df78667a90996f1fa6e16ba99f4b08f6"), looks := false }, kinds := [], alts := [], laidByText := true, laidKinds := [.data], laidTests := true, laidLooks := .later }
def DiscOrderUptoCardSaid : Prop := Claim7.holds Tryd.pinned (.plain (OpenSpec.upto discOrderSpec)) discOrderUptoCard
end Rows
end Go.Proofs.YthkpbnbbhlpkjaaDoor
