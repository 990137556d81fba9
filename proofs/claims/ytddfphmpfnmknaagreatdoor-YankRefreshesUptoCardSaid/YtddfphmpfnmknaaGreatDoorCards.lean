/-
  DERIVED. GIVEN WITH THE SEED: THE CARDS: each row of YtddfphmpfnmknaaGreatDoorRows.lean that lists a variable, with what it lists TIED to the program's text (the seventh form; the later family's looks); each row that meets fmt, with fmt's text TOLD by the authors' own Lean function (tested against real Go, not proved from fmt's source: count such statements apart). THE CARD IS WHAT COUNTS. Prove the row's statement (the work); the ties are given (YtddfphmpfnmknaaGreatDoorTie.lean); close each card by the builder's one call (the guide's Derived/Test/ToyasCard.lean, 'card_holds'). Laid BY PROGRAM, IN A SANDBOX (cutbox-door.mjs). By AI agents, Wed Nov 11 2026. No macro, syntax, notation, axiom, sorry.
-/
import Derived.Test.YtddfphmpfnmknaaGreatDoorRows
import GoSem.ClaimSeven
namespace Go.Proofs.YtddfphmpfnmknaaGreatDoor
namespace Rows

/-- THE TIED CARD OF 'modcertlaw43.YankBack'. -/
def yankBackCard : Claim7 := { stood := { row := yankBackRow, standIns := [], harness := (true, "ba22e99d3565912c2d7ecbb8e9538ba252f135f74db33cb72e48c5a7c057721f"), looks := false }, kinds := [], alts := [], laidByText := true, laidKinds := [.data, .pinned], laidTests := true, laidLooks := .later }
def YankBackCardSaid : Prop := Claim7.holds Tryz.pinned (.plain (OpenSpec.ofChange yankBackSpec)) yankBackCard

/-- THE TIED CARD OF 'modcertlaw43.YankFits'. -/
def yankFitsCard : Claim7 := { stood := { row := yankFitsRow, standIns := [], harness := (true, "ba22e99d3565912c2d7ecbb8e9538ba252f135f74db33cb72e48c5a7c057721f"), looks := false }, kinds := [], alts := [], laidByText := true, laidKinds := [.data, .pinned], laidTests := true, laidLooks := .later }
def YankFitsCardSaid : Prop := Claim7.holds Tryz.pinned (.plain (OpenSpec.ofChange yankFitsSpec)) yankFitsCard

/-- THE TIED CARD OF 'modcertlaw43.YankNever'. -/
def yankNeverCard : Claim7 := { stood := { row := yankNeverRow, standIns := [], harness := (true, "ba22e99d3565912c2d7ecbb8e9538ba252f135f74db33cb72e48c5a7c057721f"), looks := false }, kinds := [], alts := [], laidByText := true, laidKinds := [.data, .pinned], laidTests := true, laidLooks := .later }
def YankNeverCardSaid : Prop := Claim7.holds Tryz.pinned (.plain (OpenSpec.ofChange yankNeverSpec)) yankNeverCard

/-- THE TIED CARD OF 'modcertlaw43.YankChanges'. -/
def yankChangesCard : Claim7 := { stood := { row := yankChangesRow, standIns := [], harness := (true, "ba22e99d3565912c2d7ecbb8e9538ba252f135f74db33cb72e48c5a7c057721f"), looks := false }, kinds := [], alts := [], laidByText := true, laidKinds := [.data, .pinned], laidTests := true, laidLooks := .later }
def YankChangesCardSaid : Prop := Claim7.holds Tryz.pinned (.plain (OpenSpec.ofChange yankChangesSpec)) yankChangesCard

/-- THE TIED CARD OF 'modcertlaw43.YankRefreshes'. -/
def yankRefreshesCard : Claim7 := { stood := { row := yankRefreshesRow, standIns := [], harness := (true, "ba22e99d3565912c2d7ecbb8e9538ba252f135f74db33cb72e48c5a7c057721f"), looks := false }, kinds := [], alts := [], laidByText := true, laidKinds := [.data, .pinned], laidTests := true, laidLooks := .later }
def YankRefreshesCardSaid : Prop := Claim7.holds Tryz.pinned (.plain (OpenSpec.ofChange yankRefreshesSpec)) yankRefreshesCard

/-- THE TIED CARD OF 'modcertlaw43.YankKeeps'. -/
def yankKeepsCard : Claim7 := { stood := { row := yankKeepsRow, standIns := [], harness := (true, "ba22e99d3565912c2d7ecbb8e9538ba252f135f74db33cb72e48c5a7c057721f"), looks := false }, kinds := [], alts := [], laidByText := true, laidKinds := [.data, .pinned], laidTests := true, laidLooks := .later }
def YankKeepsCardSaid : Prop := Claim7.holds Tryz.pinned (.plain (OpenSpec.ofChange yankKeepsSpec)) yankKeepsCard

/-- THE SECOND FORM's CARD OF 'modcertlaw43.YankBack'. -/
def yankBackUptoCard : Claim7 := { stood := { row := yankBackUptoRow, standIns := [], harness := (true, "ba22e99d3565912c2d7ecbb8e9538ba252f135f74db33cb72e48c5a7c057721f"), looks := false }, kinds := [], alts := [], laidByText := true, laidKinds := [.data, .pinned], laidTests := true, laidLooks := .later }
def YankBackUptoCardSaid : Prop := Claim7.holds Tryz.pinned (.plain (OpenSpec.upto yankBackSpec)) yankBackUptoCard

/-- THE SECOND FORM's CARD OF 'modcertlaw43.YankFits'. -/
def yankFitsUptoCard : Claim7 := { stood := { row := yankFitsUptoRow, standIns := [], harness := (true, "ba22e99d3565912c2d7ecbb8e9538ba252f135f74db33cb72e48c5a7c057721f"), looks := false }, kinds := [], alts := [], laidByText := true, laidKinds := [.data, .pinned], laidTests := true, laidLooks := .later }
def YankFitsUptoCardSaid : Prop := Claim7.holds Tryz.pinned (.plain (OpenSpec.upto yankFitsSpec)) yankFitsUptoCard

/-- THE SECOND FORM's CARD OF 'modcertlaw43.YankNever'. -/
def yankNeverUptoCard : Claim7 := { stood := { row := yankNeverUptoRow, standIns := [], harness := (true, "ba22e99d3565912c2d7ecbb8e9538ba252f135f74db33cb72e48c5a7c057721f"), looks := false }, kinds := [], alts := [], laidByText := true, laidKinds := [.data, .pinned], laidTests := true, laidLooks := .later }
def YankNeverUptoCardSaid : Prop := Claim7.holds Tryz.pinned (.plain (OpenSpec.upto yankNeverSpec)) yankNeverUptoCard

/-- THE SECOND FORM's CARD OF 'modcertlaw43.YankChanges'. -/
def yankChangesUptoCard : Claim7 := { stood := { row := yankChangesUptoRow, standIns := [], harness := (true, "ba22e99d3565912c2d7ecbb8e9538ba252f135f74db33cb72e48c5a7c057721f"), looks := false }, kinds := [], alts := [], laidByText := true, laidKinds := [.data, .pinned], laidTests := true, laidLooks := .later }
def YankChangesUptoCardSaid : Prop := Claim7.holds Tryz.pinned (.plain (OpenSpec.upto yankChangesSpec)) yankChangesUptoCard

/-- THE SECOND FORM's CARD OF 'modcertlaw43.YankRefreshes'. -/
def yankRefreshesUptoCard : Claim7 := { stood := { row := yankRefreshesUptoRow, standIns := [], harness := (true, "ba22e99d3565912c2d7ecbb8e9538ba252f135f74db33cb72e48c5a7c057721f"), looks := false }, kinds := [], alts := [], laidByText := true, laidKinds := [.data, .pinned], laidTests := true, laidLooks := .later }
def YankRefreshesUptoCardSaid : Prop := Claim7.holds Tryz.pinned (.plain (OpenSpec.upto yankRefreshesSpec)) yankRefreshesUptoCard

/-- THE SECOND FORM's CARD OF 'modcertlaw43.YankKeeps'. -/
def yankKeepsUptoCard : Claim7 := { stood := { row := yankKeepsUptoRow, standIns := [], harness := (true, "ba22e99d3565912c2d7ecbb8e9538ba252f135f74db33cb72e48c5a7c057721f"), looks := false }, kinds := [], alts := [], laidByText := true, laidKinds := [.data, .pinned], laidTests := true, laidLooks := .later }
def YankKeepsUptoCardSaid : Prop := Claim7.holds Tryz.pinned (.plain (OpenSpec.upto yankKeepsSpec)) yankKeepsUptoCard
end Rows
end Go.Proofs.YtddfphmpfnmknaaGreatDoor
