/-
  DERIVED. GIVEN WITH THE SEED: THE CARDS: each row of YtgkgihnpjgbmhaaGreatDoorRows.lean that lists a variable, with what it lists TIED to the program's text (the seventh form; the later family's looks); each row that meets fmt, with fmt's text TOLD by the authors' own Lean function (tested against real Go, not proved from fmt's source: count such statements apart). THE CARD IS WHAT COUNTS. Prove the row's statement (the work); the ties are given (YtgkgihnpjgbmhaaGreatDoorTie.lean); close each card by the builder's one call (the guide's Derived/Test/ToyasCard.lean, 'card_holds'). Laid BY PROGRAM, IN A SANDBOX (cutbox-door.mjs). By AI agents, Wed Nov 11 2026. No macro, syntax, notation, axiom, sorry.
-/
import Derived.Test.YtgkgihnpjgbmhaaGreatDoorRows
import GoSem.ClaimSeven
namespace Go.Proofs.YtgkgihnpjgbmhaaGreatDoor
namespace Rows

/-- THE TIED CARD OF 'inlaytop.TopVersionsCompose'. -/
def topVersionsComposeCard : Claim7 := { stood := { row := topVersionsComposeRow, standIns := [], harness := (true, "b12411b6313e5750e6d6e8176aa13c53567b6f91277cf4179414ab0deedee87e"), looks := true }, kinds := [], alts := [], laidByText := true, laidKinds := [.data, .pinned], laidTests := true, laidLooks := .later }
def TopVersionsComposeCardSaid : Prop := Claim7.holds Tryz.pinned (.plain (OpenSpec.ofChange topVersionsComposeSpec)) topVersionsComposeCard

/-- THE TIED CARD OF 'inlaytop.TopMovedCode'. -/
def topMovedCodeCard : Claim7 := { stood := { row := topMovedCodeRow, standIns := [], harness := (true, "b12411b6313e5750e6d6e8176aa13c53567b6f91277cf4179414ab0deedee87e"), looks := true }, kinds := [], alts := [], laidByText := true, laidKinds := [.data, .pinned], laidTests := true, laidLooks := .later }
def TopMovedCodeCardSaid : Prop := Claim7.holds Tryz.pinned (.plain (OpenSpec.ofChange topMovedCodeSpec)) topMovedCodeCard

/-- THE TIED CARD OF 'inlaytop.TopPackedChains'. -/
def topPackedChainsCard : Claim7 := { stood := { row := topPackedChainsRow, standIns := [], harness := (true, "b12411b6313e5750e6d6e8176aa13c53567b6f91277cf4179414ab0deedee87e"), looks := true }, kinds := [], alts := [], laidByText := true, laidKinds := [.data, .pinned], laidTests := true, laidLooks := .later }
def TopPackedChainsCardSaid : Prop := Claim7.holds Tryz.pinned (.plain (OpenSpec.ofChange topPackedChainsSpec)) topPackedChainsCard

/-- THE SECOND FORM's CARD OF 'inlaytop.TopVersionsCompose'. -/
def topVersionsComposeUptoCard : Claim7 := { stood := { row := topVersionsComposeUptoRow, standIns := [], harness := (true, "b12411b6313e5750e6d6e8176aa13c53567b6f91277cf4179414ab0deedee87e"), looks := true }, kinds := [], alts := [], laidByText := true, laidKinds := [.data, .pinned], laidTests := true, laidLooks := .later }
def TopVersionsComposeUptoCardSaid : Prop := Claim7.holds Tryz.pinned (.plain (OpenSpec.upto topVersionsComposeSpec)) topVersionsComposeUptoCard

/-- THE SECOND FORM's CARD OF 'inlaytop.TopMovedCode'. -/
def topMovedCodeUptoCard : Claim7 := { stood := { row := topMovedCodeUptoRow, standIns := [], harness := (true, "b12411b6313e5750e6d6e8176aa13c53567b6f91277cf4179414ab0deedee87e"), looks := true }, kinds := [], alts := [], laidByText := true, laidKinds := [.data, .pinned], laidTests := true, laidLooks := .later }
def TopMovedCodeUptoCardSaid : Prop := Claim7.holds Tryz.pinned (.plain (OpenSpec.upto topMovedCodeSpec)) topMovedCodeUptoCard

/-- THE SECOND FORM's CARD OF 'inlaytop.TopPackedChains'. -/
def topPackedChainsUptoCard : Claim7 := { stood := { row := topPackedChainsUptoRow, standIns := [], harness := (true, "b12411b6313e5750e6d6e8176aa13c53567b6f91277cf4179414ab0deedee87e"), looks := true }, kinds := [], alts := [], laidByText := true, laidKinds := [.data, .pinned], laidTests := true, laidLooks := .later }
def TopPackedChainsUptoCardSaid : Prop := Claim7.holds Tryz.pinned (.plain (OpenSpec.upto topPackedChainsSpec)) topPackedChainsUptoCard
end Rows
end Go.Proofs.YtgkgihnpjgbmhaaGreatDoor
