/-
  DERIVED. GIVEN WITH THE SEED: THE CARDS: each row of YtkmnnpmneamgoaaGreatDoorRows.lean that lists a variable, with what it lists TIED to the program's text (the seventh form; the later family's looks); each row that meets fmt, with fmt's text TOLD by the authors' own Lean function (tested against real Go, not proved from fmt's source: count such statements apart). THE CARD IS WHAT COUNTS. Prove the row's statement (the work); the ties are given (YtkmnnpmneamgoaaGreatDoorTie.lean); close each card by the builder's one call (the guide's Derived/Test/ToyasCard.lean, 'card_holds'). Laid BY PROGRAM, IN A SANDBOX (cutbox-door.mjs). By AI agents, Wed Nov 11 2026. No macro, syntax, notation, axiom, sorry.
-/
import Derived.Test.YtkmnnpmneamgoaaGreatDoorRows
import GoSem.ClaimSeven
namespace Go.Proofs.YtkmnnpmneamgoaaGreatDoor
namespace Rows

/-- THE TIED CARD OF 'modcertlaw37.SolverLists'. -/
def solverListsCard : Claim7 := { stood := { row := solverListsRow, standIns := [], harness := (true, "c02a006913099df965eb782ffdf21bd579e934c21358ea0d03beff3e219c916b"), looks := false }, kinds := [], alts := [], laidByText := true, laidKinds := [.data, .pinned], laidTests := true, laidLooks := .later }
def SolverListsCardSaid : Prop := Claim7.holds Tryz.pinned (.plain (OpenSpec.ofChange solverListsSpec)) solverListsCard

/-- THE TIED CARD OF 'modcertlaw37.SolverCores'. -/
def solverCoresCard : Claim7 := { stood := { row := solverCoresRow, standIns := [], harness := (true, "c02a006913099df965eb782ffdf21bd579e934c21358ea0d03beff3e219c916b"), looks := false }, kinds := [], alts := [], laidByText := true, laidKinds := [.data, .pinned], laidTests := true, laidLooks := .later }
def SolverCoresCardSaid : Prop := Claim7.holds Tryz.pinned (.plain (OpenSpec.ofChange solverCoresSpec)) solverCoresCard

/-- THE TIED CARD OF 'modcertlaw37.SolverMinimal'. -/
def solverMinimalCard : Claim7 := { stood := { row := solverMinimalRow, standIns := [], harness := (true, "c02a006913099df965eb782ffdf21bd579e934c21358ea0d03beff3e219c916b"), looks := false }, kinds := [], alts := [], laidByText := true, laidKinds := [.data, .pinned], laidTests := true, laidLooks := .later }
def SolverMinimalCardSaid : Prop := Claim7.holds Tryz.pinned (.plain (OpenSpec.ofChange solverMinimalSpec)) solverMinimalCard

/-- THE TIED CARD OF 'modcertlaw37.SolverOrder'. -/
def solverOrderCard : Claim7 := { stood := { row := solverOrderRow, standIns := [], harness := (true, "c02a006913099df965eb782ffdf21bd579e934c21358ea0d03beff3e219c916b"), looks := false }, kinds := [], alts := [], laidByText := true, laidKinds := [.data, .pinned], laidTests := true, laidLooks := .later }
def SolverOrderCardSaid : Prop := Claim7.holds Tryz.pinned (.plain (OpenSpec.ofChange solverOrderSpec)) solverOrderCard

/-- THE TIED CARD OF 'modcertlaw37.SolverProves'. -/
def solverProvesCard : Claim7 := { stood := { row := solverProvesRow, standIns := [], harness := (true, "c02a006913099df965eb782ffdf21bd579e934c21358ea0d03beff3e219c916b"), looks := false }, kinds := [], alts := [], laidByText := true, laidKinds := [.data, .pinned], laidTests := true, laidLooks := .later }
def SolverProvesCardSaid : Prop := Claim7.holds Tryz.pinned (.plain (OpenSpec.ofChange solverProvesSpec)) solverProvesCard

/-- THE SECOND FORM's CARD OF 'modcertlaw37.SolverLists'. -/
def solverListsUptoCard : Claim7 := { stood := { row := solverListsUptoRow, standIns := [], harness := (true, "c02a006913099df965eb782ffdf21bd579e934c21358ea0d03beff3e219c916b"), looks := false }, kinds := [], alts := [], laidByText := true, laidKinds := [.data, .pinned], laidTests := true, laidLooks := .later }
def SolverListsUptoCardSaid : Prop := Claim7.holds Tryz.pinned (.plain (OpenSpec.upto solverListsSpec)) solverListsUptoCard

/-- THE SECOND FORM's CARD OF 'modcertlaw37.SolverCores'. -/
def solverCoresUptoCard : Claim7 := { stood := { row := solverCoresUptoRow, standIns := [], harness := (true, "c02a006913099df965eb782ffdf21bd579e934c21358ea0d03beff3e219c916b"), looks := false }, kinds := [], alts := [], laidByText := true, laidKinds := [.data, .pinned], laidTests := true, laidLooks := .later }
def SolverCoresUptoCardSaid : Prop := Claim7.holds Tryz.pinned (.plain (OpenSpec.upto solverCoresSpec)) solverCoresUptoCard

/-- THE SECOND FORM's CARD OF 'modcertlaw37.SolverMinimal'. -/
def solverMinimalUptoCard : Claim7 := { stood := { row := solverMinimalUptoRow, standIns := [], harness := (true, "c02a006913099df965eb782ffdf21bd579e934c21358ea0d03beff3e219c916b"), looks := false }, kinds := [], alts := [], laidByText := true, laidKinds := [.data, .pinned], laidTests := true, laidLooks := .later }
def SolverMinimalUptoCardSaid : Prop := Claim7.holds Tryz.pinned (.plain (OpenSpec.upto solverMinimalSpec)) solverMinimalUptoCard

/-- THE SECOND FORM's CARD OF 'modcertlaw37.SolverOrder'. -/
def solverOrderUptoCard : Claim7 := { stood := { row := solverOrderUptoRow, standIns := [], harness := (true, "c02a006913099df965eb782ffdf21bd579e934c21358ea0d03beff3e219c916b"), looks := false }, kinds := [], alts := [], laidByText := true, laidKinds := [.data, .pinned], laidTests := true, laidLooks := .later }
def SolverOrderUptoCardSaid : Prop := Claim7.holds Tryz.pinned (.plain (OpenSpec.upto solverOrderSpec)) solverOrderUptoCard

/-- THE SECOND FORM's CARD OF 'modcertlaw37.SolverProves'. -/
def solverProvesUptoCard : Claim7 := { stood := { row := solverProvesUptoRow, standIns := [], harness := (true, "c02a006913099df965eb782ffdf21bd579e934c21358ea0d03beff3e219c916b"), looks := false }, kinds := [], alts := [], laidByText := true, laidKinds := [.data, .pinned], laidTests := true, laidLooks := .later }
def SolverProvesUptoCardSaid : Prop := Claim7.holds Tryz.pinned (.plain (OpenSpec.upto solverProvesSpec)) solverProvesUptoCard
end Rows
end Go.Proofs.YtkmnnpmneamgoaaGreatDoor
