/-
  DERIVED. GIVEN WITH THE SEED: THE CARDS: each row of YtikhbokeaikcpaaDoorRows.lean that lists a variable, with what it lists TIED to the program's text (the seventh form; the later family's looks); each row that meets fmt, with fmt's text TOLD by the authors' own Lean function (tested against real Go, not proved from fmt's source: count such statements apart). THE CARD IS WHAT COUNTS. Prove the row's statement (the work); the ties are given (YtikhbokeaikcpaaDoorTie.lean); close each card by the builder's one call (the guide's Derived/Test/ToyasCard.lean, 'card_holds'). Laid BY PROGRAM, IN A SANDBOX (cutbox-door.mjs). By AI agents, Wed Nov 11 2026. No macro, syntax, notation, axiom, sorry.
-/
import Derived.Test.YtikhbokeaikcpaaDoorRows
import GoSem.ClaimSeven
namespace Go.Proofs.YtikhbokeaikcpaaDoor
namespace Rows

/-- THE TIED CARD OF 'annuluslaw8.GaussFloats'. -/
def gaussFloatsCard : Claim7 := { stood := { row := gaussFloatsRow, standIns := [], harness := (true, "ca113de922bda24cc8cc0a2ddcd46276dc81a814a2fd42fefa6ccd7ba3797c49"), looks := false }, kinds := [], alts := [], laidByText := true, laidKinds := [.data], laidTests := true, laidLooks := .later }
def GaussFloatsCardSaid : Prop := Claim7.holds Tryd.pinned (.plain (OpenSpec.ofChange gaussFloatsSpec)) gaussFloatsCard

/-- THE TIED CARD OF 'annuluslaw8.GaussWholes'. -/
def gaussWholesCard : Claim7 := { stood := { row := gaussWholesRow, standIns := [], harness := (true, "ca113de922bda24cc8cc0a2ddcd46276dc81a814a2fd42fefa6ccd7ba3797c49"), looks := false }, kinds := [], alts := [], laidByText := true, laidKinds := [.data], laidTests := true, laidLooks := .later }
def GaussWholesCardSaid : Prop := Claim7.holds Tryd.pinned (.plain (OpenSpec.ofChange gaussWholesSpec)) gaussWholesCard

/-- THE TIED CARD OF 'annuluslaw8.GaussLaws'. -/
def gaussLawsCard : Claim7 := { stood := { row := gaussLawsRow, standIns := [], harness := (true, "ca113de922bda24cc8cc0a2ddcd46276dc81a814a2fd42fefa6ccd7ba3797c49"), looks := false }, kinds := [], alts := [], laidByText := true, laidKinds := [.data], laidTests := true, laidLooks := .later }
def GaussLawsCardSaid : Prop := Claim7.holds Tryd.pinned (.plain (OpenSpec.ofChange gaussLawsSpec)) gaussLawsCard

/-- THE TIED CARD OF 'annuluslaw8.GaussTurns'. -/
def gaussTurnsCard : Claim7 := { stood := { row := gaussTurnsRow, standIns := [], harness := (true, "ca113de922bda24cc8cc0a2ddcd46276dc81a814a2fd42fefa6ccd7ba3797c49"), looks := false }, kinds := [], alts := [], laidByText := true, laidKinds := [.data], laidTests := true, laidLooks := .later }
def GaussTurnsCardSaid : Prop := Claim7.holds Tryd.pinned (.plain (OpenSpec.ofChange gaussTurnsSpec)) gaussTurnsCard

/-- THE SECOND FORM's CARD OF 'annuluslaw8.GaussFloats'. -/
def gaussFloatsUptoCard : Claim7 := { stood := { row := gaussFloatsUptoRow, standIns := [], harness := (true, "ca113de922bda24cc8cc0a2ddcd46276dc81a814a2fd42fefa6ccd7ba3797c49"), looks := false }, kinds := [], alts := [], laidByText := true, laidKinds := [.data], laidTests := true, laidLooks := .later }
def GaussFloatsUptoCardSaid : Prop := Claim7.holds Tryd.pinned (.plain (OpenSpec.upto gaussFloatsSpec)) gaussFloatsUptoCard

/-- THE SECOND FORM's CARD OF 'annuluslaw8.GaussWholes'. -/
def gaussWholesUptoCard : Claim7 := { stood := { row := gaussWholesUptoRow, standIns := [], harness := (true, "ca113de922bda24cc8cc0a2ddcd46276dc81a814a2fd42fefa6ccd7ba3797c49"), looks := false }, kinds := [], alts := [], laidByText := true, laidKinds := [.data], laidTests := true, laidLooks := .later }
def GaussWholesUptoCardSaid : Prop := Claim7.holds Tryd.pinned (.plain (OpenSpec.upto gaussWholesSpec)) gaussWholesUptoCard

/-- THE SECOND FORM's CARD OF 'annuluslaw8.GaussLaws'. -/
def gaussLawsUptoCard : Claim7 := { stood := { row := gaussLawsUptoRow, standIns := [], harness := (true, "ca113de922bda24cc8cc0a2ddcd46276dc81a814a2fd42fefa6ccd7ba3797c49"), looks := false }, kinds := [], alts := [], laidByText := true, laidKinds := [.data], laidTests := true, laidLooks := .later }
def GaussLawsUptoCardSaid : Prop := Claim7.holds Tryd.pinned (.plain (OpenSpec.upto gaussLawsSpec)) gaussLawsUptoCard

/-- THE SECOND FORM's CARD OF 'annuluslaw8.GaussTurns'. -/
def gaussTurnsUptoCard : Claim7 := { stood := { row := gaussTurnsUptoRow, standIns := [], harness := (true, "ca113de922bda24cc8cc0a2ddcd46276dc81a814a2fd42fefa6ccd7ba3797c49"), looks := false }, kinds := [], alts := [], laidByText := true, laidKinds := [.data], laidTests := true, laidLooks := .later }
def GaussTurnsUptoCardSaid : Prop := Claim7.holds Tryd.pinned (.plain (OpenSpec.upto gaussTurnsSpec)) gaussTurnsUptoCard
end Rows
end Go.Proofs.YtikhbokeaikcpaaDoor
