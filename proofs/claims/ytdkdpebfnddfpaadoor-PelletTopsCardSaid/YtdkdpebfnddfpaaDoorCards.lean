/-
  DERIVED. GIVEN WITH THE SEED: THE CARDS: each row of YtdkdpebfnddfpaaDoorRows.lean that lists a variable, with what it lists TIED to the program's text (the seventh form; the later family's looks); each row that meets fmt, with fmt's text TOLD by the authors' own Lean function (tested against real Go, not proved from fmt's source: count such statements apart). THE CARD IS WHAT COUNTS. Prove the row's statement (the work); the ties are given (YtdkdpebfnddfpaaDoorTie.lean); close each card by the builder's one call (the guide's Derived/Test/ToyasCard.lean, 'card_holds'). Laid BY PROGRAM, IN A SANDBOX (cutbox-door.mjs). By AI agents, Wed Nov 11 2026. No macro, syntax, notation, axiom, sorry.
-/
import Derived.Test.YtdkdpebfnddfpaaDoorRows
import GoSem.ClaimSeven
namespace Go.Proofs.YtdkdpebfnddfpaaDoor
namespace Rows

/-- THE TIED CARD OF 'annuluslaw6.QuotTells'. -/
def quotTellsCard : Claim7 := { stood := { row := quotTellsRow, standIns := [], harness := (true, "617a44b70e3e4190500ac962d0f330366c4b8d47c891eb9e3781cc4df48ad62d"), looks := false }, kinds := [], alts := [], laidByText := true, laidKinds := [.data], laidTests := true, laidLooks := .later }
def QuotTellsCardSaid : Prop := Claim7.holds Tryd.pinned (.plain (OpenSpec.ofChange quotTellsSpec)) quotTellsCard

/-- THE TIED CARD OF 'annuluslaw6.QuotNear'. -/
def quotNearCard : Claim7 := { stood := { row := quotNearRow, standIns := [], harness := (true, "617a44b70e3e4190500ac962d0f330366c4b8d47c891eb9e3781cc4df48ad62d"), looks := false }, kinds := [], alts := [], laidByText := true, laidKinds := [.data], laidTests := true, laidLooks := .later }
def QuotNearCardSaid : Prop := Claim7.holds Tryd.pinned (.plain (OpenSpec.ofChange quotNearSpec)) quotNearCard

/-- THE TIED CARD OF 'annuluslaw6.QuotThirds'. -/
def quotThirdsCard : Claim7 := { stood := { row := quotThirdsRow, standIns := [], harness := (true, "617a44b70e3e4190500ac962d0f330366c4b8d47c891eb9e3781cc4df48ad62d"), looks := false }, kinds := [], alts := [], laidByText := true, laidKinds := [.data], laidTests := true, laidLooks := .later }
def QuotThirdsCardSaid : Prop := Claim7.holds Tryd.pinned (.plain (OpenSpec.ofChange quotThirdsSpec)) quotThirdsCard

/-- THE TIED CARD OF 'annuluslaw6.QuotExact'. -/
def quotExactCard : Claim7 := { stood := { row := quotExactRow, standIns := [], harness := (true, "617a44b70e3e4190500ac962d0f330366c4b8d47c891eb9e3781cc4df48ad62d"), looks := false }, kinds := [], alts := [], laidByText := true, laidKinds := [.data], laidTests := true, laidLooks := .later }
def QuotExactCardSaid : Prop := Claim7.holds Tryd.pinned (.plain (OpenSpec.ofChange quotExactSpec)) quotExactCard

/-- THE TIED CARD OF 'annuluslaw6.QuotSides'. -/
def quotSidesCard : Claim7 := { stood := { row := quotSidesRow, standIns := [], harness := (true, "617a44b70e3e4190500ac962d0f330366c4b8d47c891eb9e3781cc4df48ad62d"), looks := false }, kinds := [], alts := [], laidByText := true, laidKinds := [.data], laidTests := true, laidLooks := .later }
def QuotSidesCardSaid : Prop := Claim7.holds Tryd.pinned (.plain (OpenSpec.ofChange quotSidesSpec)) quotSidesCard

/-- THE TIED CARD OF 'annuluslaw14.PelletMore'. -/
def pelletMoreCard : Claim7 := { stood := { row := pelletMoreRow, standIns := [], harness := (true, "617a44b70e3e4190500ac962d0f330366c4b8d47c891eb9e3781cc4df48ad62d"), looks := false }, kinds := [], alts := [], laidByText := true, laidKinds := [.data], laidTests := true, laidLooks := .later }
def PelletMoreCardSaid : Prop := Claim7.holds Tryd.pinned (.plain (OpenSpec.ofChange pelletMoreSpec)) pelletMoreCard

/-- THE TIED CARD OF 'annuluslaw14.PelletTops'. -/
def pelletTopsCard : Claim7 := { stood := { row := pelletTopsRow, standIns := [], harness := (true, "617a44b70e3e4190500ac962d0f330366c4b8d47c891eb9e3781cc4df48ad62d"), looks := false }, kinds := [], alts := [], laidByText := true, laidKinds := [.data], laidTests := true, laidLooks := .later }
def PelletTopsCardSaid : Prop := Claim7.holds Tryd.pinned (.plain (OpenSpec.ofChange pelletTopsSpec)) pelletTopsCard

/-- THE SECOND FORM's CARD OF 'annuluslaw6.QuotTells'. -/
def quotTellsUptoCard : Claim7 := { stood := { row := quotTellsUptoRow, standIns := [], harness := (true, "617a44b70e3e4190500ac962d0f330366c4b8d47c891eb9e3781cc4df48ad62d"), looks := false }, kinds := [], alts := [], laidByText := true, laidKinds := [.data], laidTests := true, laidLooks := .later }
def QuotTellsUptoCardSaid : Prop := Claim7.holds Tryd.pinned (.plain (OpenSpec.upto quotTellsSpec)) quotTellsUptoCard

/-- THE SECOND FORM's CARD OF 'annuluslaw6.QuotNear'. -/
def quotNearUptoCard : Claim7 := { stood := { row := quotNearUptoRow, standIns := [], harness := (true, "617a44b70e3e4190500ac962d0f330366c4b8d47c891eb9e3781cc4df48ad62d"), looks := false }, kinds := [], alts := [], laidByText := true, laidKinds := [.data], laidTests := true, laidLooks := .later }
def QuotNearUptoCardSaid : Prop := Claim7.holds Tryd.pinned (.plain (OpenSpec.upto quotNearSpec)) quotNearUptoCard

/-- THE SECOND FORM's CARD OF 'annuluslaw6.QuotThirds'. -/
def quotThirdsUptoCard : Claim7 := { stood := { row := quotThirdsUptoRow, standIns := [], harness := (true, "617a44b70e3e4190500ac962d0f330366c4b8d47c891eb9e3781cc4df48ad62d"), looks := false }, kinds := [], alts := [], laidByText := true, laidKinds := [.data], laidTests := true, laidLooks := .later }
def QuotThirdsUptoCardSaid : Prop := Claim7.holds Tryd.pinned (.plain (OpenSpec.upto quotThirdsSpec)) quotThirdsUptoCard

/-- THE SECOND FORM's CARD OF 'annuluslaw6.QuotExact'. -/
def quotExactUptoCard : Claim7 := { stood := { row := quotExactUptoRow, standIns := [], harness := (true, "617a44b70e3e4190500ac962d0f330366c4b8d47c891eb9e3781cc4df48ad62d"), looks := false }, kinds := [], alts := [], laidByText := true, laidKinds := [.data], laidTests := true, laidLooks := .later }
def QuotExactUptoCardSaid : Prop := Claim7.holds Tryd.pinned (.plain (OpenSpec.upto quotExactSpec)) quotExactUptoCard

/-- THE SECOND FORM's CARD OF 'annuluslaw6.QuotSides'. -/
def quotSidesUptoCard : Claim7 := { stood := { row := quotSidesUptoRow, standIns := [], harness := (true, "617a44b70e3e4190500ac962d0f330366c4b8d47c891eb9e3781cc4df48ad62d"), looks := false }, kinds := [], alts := [], laidByText := true, laidKinds := [.data], laidTests := true, laidLooks := .later }
def QuotSidesUptoCardSaid : Prop := Claim7.holds Tryd.pinned (.plain (OpenSpec.upto quotSidesSpec)) quotSidesUptoCard

/-- THE SECOND FORM's CARD OF 'annuluslaw14.PelletMore'. -/
def pelletMoreUptoCard : Claim7 := { stood := { row := pelletMoreUptoRow, standIns := [], harness := (true, "617a44b70e3e4190500ac962d0f330366c4b8d47c891eb9e3781cc4df48ad62d"), looks := false }, kinds := [], alts := [], laidByText := true, laidKinds := [.data], laidTests := true, laidLooks := .later }
def PelletMoreUptoCardSaid : Prop := Claim7.holds Tryd.pinned (.plain (OpenSpec.upto pelletMoreSpec)) pelletMoreUptoCard

/-- THE SECOND FORM's CARD OF 'annuluslaw14.PelletTops'. -/
def pelletTopsUptoCard : Claim7 := { stood := { row := pelletTopsUptoRow, standIns := [], harness := (true, "617a44b70e3e4190500ac962d0f330366c4b8d47c891eb9e3781cc4df48ad62d"), looks := false }, kinds := [], alts := [], laidByText := true, laidKinds := [.data], laidTests := true, laidLooks := .later }
def PelletTopsUptoCardSaid : Prop := Claim7.holds Tryd.pinned (.plain (OpenSpec.upto pelletTopsSpec)) pelletTopsUptoCard
end Rows
end Go.Proofs.YtdkdpebfnddfpaaDoor
