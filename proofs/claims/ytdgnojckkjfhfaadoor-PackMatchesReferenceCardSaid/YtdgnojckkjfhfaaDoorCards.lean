/-
  DERIVED. GIVEN WITH THE SEED: THE CARDS: each row of YtdgnojckkjfhfaaDoorRows.lean that lists a variable, with what it lists TIED to the program's text (the seventh form; the later family's looks); each row that meets fmt, with fmt's text TOLD by the authors' own Lean function (tested against real Go, not proved from fmt's source: count such statements apart). THE CARD IS WHAT COUNTS. Prove the row's statement (the work); the ties are given (YtdgnojckkjfhfaaDoorTie.lean); close each card by the builder's one call (the guide's Derived/Test/ToyasCard.lean, 'card_holds'). Laid BY PROGRAM, IN A SANDBOX (cutbox-door.mjs). By AI agents, Wed Nov 11 2026. No macro, syntax, notation, axiom, sorry.
-/
import Derived.Test.YtdgnojckkjfhfaaDoorRows
import GoSem.ClaimSeven
namespace Go.Proofs.YtdgnojckkjfhfaaDoor
namespace Rows

/-- THE TIED CARD OF 'inlaylaw14.PackMatchesReference'. -/
def packMatchesReferenceCard : Claim7 := { stood := { row := packMatchesReferenceRow, standIns := [], harness := (true, "3c09e8b0c0073997bf8068ad68b360f607ade83da3d75d7113858b050bbf472e"), looks := true }, kinds := [], alts := [], laidByText := true, laidKinds := [.data, .pinned], laidTests := true, laidLooks := .later }
def PackMatchesReferenceCardSaid : Prop := Claim7.holds Tryd.pinned (.plain (OpenSpec.ofChange packMatchesReferenceSpec)) packMatchesReferenceCard

/-- THE TIED CARD OF 'inlaylaw14.PackOnly'. -/
def packOnlyCard : Claim7 := { stood := { row := packOnlyRow, standIns := [], harness := (true, "3c09e8b0c0073997bf8068ad68b360f607ade83da3d75d7113858b050bbf472e"), looks := true }, kinds := [], alts := [], laidByText := true, laidKinds := [.data, .pinned], laidTests := true, laidLooks := .later }
def PackOnlyCardSaid : Prop := Claim7.holds Tryd.pinned (.plain (OpenSpec.ofChange packOnlySpec)) packOnlyCard

/-- THE TIED CARD OF 'inlaylaw14.PackDamage'. -/
def packDamageCard : Claim7 := { stood := { row := packDamageRow, standIns := [], harness := (true, "3c09e8b0c0073997bf8068ad68b360f607ade83da3d75d7113858b050bbf472e"), looks := true }, kinds := [], alts := [], laidByText := true, laidKinds := [.data, .pinned], laidTests := true, laidLooks := .later }
def PackDamageCardSaid : Prop := Claim7.holds Tryd.pinned (.plain (OpenSpec.ofChange packDamageSpec)) packDamageCard

/-- THE TIED CARD OF 'inlaylaw14.PackLengths'. -/
def packLengthsCard : Claim7 := { stood := { row := packLengthsRow, standIns := [], harness := (true, "3c09e8b0c0073997bf8068ad68b360f607ade83da3d75d7113858b050bbf472e"), looks := true }, kinds := [], alts := [], laidByText := true, laidKinds := [.data, .pinned], laidTests := true, laidLooks := .later }
def PackLengthsCardSaid : Prop := Claim7.holds Tryd.pinned (.plain (OpenSpec.ofChange packLengthsSpec)) packLengthsCard

/-- THE TIED CARD OF 'inlaylaw14.PackRefuses'. -/
def packRefusesCard : Claim7 := { stood := { row := packRefusesRow, standIns := [], harness := (true, "3c09e8b0c0073997bf8068ad68b360f607ade83da3d75d7113858b050bbf472e"), looks := true }, kinds := [], alts := [], laidByText := true, laidKinds := [.data, .pinned], laidTests := true, laidLooks := .later }
def PackRefusesCardSaid : Prop := Claim7.holds Tryd.pinned (.plain (OpenSpec.ofChange packRefusesSpec)) packRefusesCard

/-- THE TIED CARD OF 'inlaylaw14.PackSizes'. -/
def packSizesCard : Claim7 := { stood := { row := packSizesRow, standIns := [], harness := (true, "3c09e8b0c0073997bf8068ad68b360f607ade83da3d75d7113858b050bbf472e"), looks := true }, kinds := [], alts := [], laidByText := true, laidKinds := [.data, .pinned], laidTests := true, laidLooks := .later }
def PackSizesCardSaid : Prop := Claim7.holds Tryd.pinned (.plain (OpenSpec.ofChange packSizesSpec)) packSizesCard

/-- THE SECOND FORM's CARD OF 'inlaylaw14.PackMatchesReference'. -/
def packMatchesReferenceUptoCard : Claim7 := { stood := { row := packMatchesReferenceUptoRow, standIns := [], harness := (true, "3c09e8b0c0073997bf8068ad68b360f607ade83da3d75d7113858b050bbf472e"), looks := true }, kinds := [], alts := [], laidByText := true, laidKinds := [.data, .pinned], laidTests := true, laidLooks := .later }
def PackMatchesReferenceUptoCardSaid : Prop := Claim7.holds Tryd.pinned (.plain (OpenSpec.upto packMatchesReferenceSpec)) packMatchesReferenceUptoCard

/-- THE SECOND FORM's CARD OF 'inlaylaw14.PackOnly'. -/
def packOnlyUptoCard : Claim7 := { stood := { row := packOnlyUptoRow, standIns := [], harness := (true, "3c09e8b0c0073997bf8068ad68b360f607ade83da3d75d7113858b050bbf472e"), looks := true }, kinds := [], alts := [], laidByText := true, laidKinds := [.data, .pinned], laidTests := true, laidLooks := .later }
def PackOnlyUptoCardSaid : Prop := Claim7.holds Tryd.pinned (.plain (OpenSpec.upto packOnlySpec)) packOnlyUptoCard

/-- THE SECOND FORM's CARD OF 'inlaylaw14.PackDamage'. -/
def packDamageUptoCard : Claim7 := { stood := { row := packDamageUptoRow, standIns := [], harness := (true, "3c09e8b0c0073997bf8068ad68b360f607ade83da3d75d7113858b050bbf472e"), looks := true }, kinds := [], alts := [], laidByText := true, laidKinds := [.data, .pinned], laidTests := true, laidLooks := .later }
def PackDamageUptoCardSaid : Prop := Claim7.holds Tryd.pinned (.plain (OpenSpec.upto packDamageSpec)) packDamageUptoCard

/-- THE SECOND FORM's CARD OF 'inlaylaw14.PackLengths'. -/
def packLengthsUptoCard : Claim7 := { stood := { row := packLengthsUptoRow, standIns := [], harness := (true, "3c09e8b0c0073997bf8068ad68b360f607ade83da3d75d7113858b050bbf472e"), looks := true }, kinds := [], alts := [], laidByText := true, laidKinds := [.data, .pinned], laidTests := true, laidLooks := .later }
def PackLengthsUptoCardSaid : Prop := Claim7.holds Tryd.pinned (.plain (OpenSpec.upto packLengthsSpec)) packLengthsUptoCard

/-- THE SECOND FORM's CARD OF 'inlaylaw14.PackRefuses'. -/
def packRefusesUptoCard : Claim7 := { stood := { row := packRefusesUptoRow, standIns := [], harness := (true, "3c09e8b0c0073997bf8068ad68b360f607ade83da3d75d7113858b050bbf472e"), looks := true }, kinds := [], alts := [], laidByText := true, laidKinds := [.data, .pinned], laidTests := true, laidLooks := .later }
def PackRefusesUptoCardSaid : Prop := Claim7.holds Tryd.pinned (.plain (OpenSpec.upto packRefusesSpec)) packRefusesUptoCard

/-- THE SECOND FORM's CARD OF 'inlaylaw14.PackSizes'. -/
def packSizesUptoCard : Claim7 := { stood := { row := packSizesUptoRow, standIns := [], harness := (true, "3c09e8b0c0073997bf8068ad68b360f607ade83da3d75d7113858b050bbf472e"), looks := true }, kinds := [], alts := [], laidByText := true, laidKinds := [.data, .pinned], laidTests := true, laidLooks := .later }
def PackSizesUptoCardSaid : Prop := Claim7.holds Tryd.pinned (.plain (OpenSpec.upto packSizesSpec)) packSizesUptoCard
end Rows
end Go.Proofs.YtdgnojckkjfhfaaDoor
