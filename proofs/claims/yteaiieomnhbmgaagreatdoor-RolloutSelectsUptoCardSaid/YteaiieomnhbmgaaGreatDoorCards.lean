/-
  DERIVED. GIVEN WITH THE SEED: THE CARDS: each row of YteaiieomnhbmgaaGreatDoorRows.lean that lists a variable, with what it lists TIED to the program's text (the seventh form; the later family's looks); each row that meets fmt, with fmt's text TOLD by the authors' own Lean function (tested against real Go, not proved from fmt's source: count such statements apart). THE CARD IS WHAT COUNTS. Prove the row's statement (the work); the ties are given (YteaiieomnhbmgaaGreatDoorTie.lean); close each card by the builder's one call (the guide's Derived/Test/ToyasCard.lean, 'card_holds'). Laid BY PROGRAM, IN A SANDBOX (cutbox-door.mjs). By AI agents, Wed Nov 11 2026. No macro, syntax, notation, axiom, sorry.
-/
import Derived.Test.YteaiieomnhbmgaaGreatDoorRows
import GoSem.ClaimSeven
namespace Go.Proofs.YteaiieomnhbmgaaGreatDoor
namespace Rows

/-- THE TIED CARD OF 'modcertlaw45.RolloutStages'. -/
def rolloutStagesCard : Claim7 := { stood := { row := rolloutStagesRow, standIns := [], harness := (true, "afa96f8da45e8d07edfbd246bfaba062fb1b6b0c24ced5718944e989e68d6788"), looks := false }, kinds := [], alts := [], laidByText := true, laidKinds := [.data, .data, .data, .data, .pinned], laidTests := true, laidLooks := .later }
def RolloutStagesCardSaid : Prop := Claim7.holds Tryz.pinned (.plain (OpenSpec.ofChange rolloutStagesSpec)) rolloutStagesCard

/-- THE TIED CARD OF 'modcertlaw45.RolloutSelects'. -/
def rolloutSelectsCard : Claim7 := { stood := { row := rolloutSelectsRow, standIns := [], harness := (true, "afa96f8da45e8d07edfbd246bfaba062fb1b6b0c24ced5718944e989e68d6788"), looks := false }, kinds := [], alts := [], laidByText := true, laidKinds := [.data, .data, .data, .data, .pinned], laidTests := true, laidLooks := .later }
def RolloutSelectsCardSaid : Prop := Claim7.holds Tryz.pinned (.plain (OpenSpec.ofChange rolloutSelectsSpec)) rolloutSelectsCard

/-- THE TIED CARD OF 'modcertlaw45.RolloutBackports'. -/
def rolloutBackportsCard : Claim7 := { stood := { row := rolloutBackportsRow, standIns := [], harness := (true, "afa96f8da45e8d07edfbd246bfaba062fb1b6b0c24ced5718944e989e68d6788"), looks := false }, kinds := [], alts := [], laidByText := true, laidKinds := [.data, .data, .data, .data, .pinned], laidTests := true, laidLooks := .later }
def RolloutBackportsCardSaid : Prop := Claim7.holds Tryz.pinned (.plain (OpenSpec.ofChange rolloutBackportsSpec)) rolloutBackportsCard

/-- THE TIED CARD OF 'modcertlaw45.RolloutConsistent'. -/
def rolloutConsistentCard : Claim7 := { stood := { row := rolloutConsistentRow, standIns := [], harness := (true, "afa96f8da45e8d07edfbd246bfaba062fb1b6b0c24ced5718944e989e68d6788"), looks := false }, kinds := [], alts := [], laidByText := true, laidKinds := [.data, .data, .data, .data, .pinned], laidTests := true, laidLooks := .later }
def RolloutConsistentCardSaid : Prop := Claim7.holds Tryz.pinned (.plain (OpenSpec.ofChange rolloutConsistentSpec)) rolloutConsistentCard

/-- THE TIED CARD OF 'modcertlaw45.RolloutForward'. -/
def rolloutForwardCard : Claim7 := { stood := { row := rolloutForwardRow, standIns := [], harness := (true, "afa96f8da45e8d07edfbd246bfaba062fb1b6b0c24ced5718944e989e68d6788"), looks := false }, kinds := [], alts := [], laidByText := true, laidKinds := [.data, .data, .data, .data, .pinned], laidTests := true, laidLooks := .later }
def RolloutForwardCardSaid : Prop := Claim7.holds Tryz.pinned (.plain (OpenSpec.ofChange rolloutForwardSpec)) rolloutForwardCard

/-- THE TIED CARD OF 'modcertlaw45.RolloutCohorts'. -/
def rolloutCohortsCard : Claim7 := { stood := { row := rolloutCohortsRow, standIns := [], harness := (true, "afa96f8da45e8d07edfbd246bfaba062fb1b6b0c24ced5718944e989e68d6788"), looks := false }, kinds := [], alts := [], laidByText := true, laidKinds := [.data, .data, .data, .data, .pinned], laidTests := true, laidLooks := .later }
def RolloutCohortsCardSaid : Prop := Claim7.holds Tryz.pinned (.plain (OpenSpec.ofChange rolloutCohortsSpec)) rolloutCohortsCard

/-- THE TIED CARD OF 'modcertlaw45.RolloutHelps'. -/
def rolloutHelpsCard : Claim7 := { stood := { row := rolloutHelpsRow, standIns := [], harness := (true, "afa96f8da45e8d07edfbd246bfaba062fb1b6b0c24ced5718944e989e68d6788"), looks := false }, kinds := [], alts := [], laidByText := true, laidKinds := [.data, .data, .data, .data, .pinned], laidTests := true, laidLooks := .later }
def RolloutHelpsCardSaid : Prop := Claim7.holds Tryz.pinned (.plain (OpenSpec.ofChange rolloutHelpsSpec)) rolloutHelpsCard

/-- THE SECOND FORM's CARD OF 'modcertlaw45.RolloutStages'. -/
def rolloutStagesUptoCard : Claim7 := { stood := { row := rolloutStagesUptoRow, standIns := [], harness := (true, "afa96f8da45e8d07edfbd246bfaba062fb1b6b0c24ced5718944e989e68d6788"), looks := false }, kinds := [], alts := [], laidByText := true, laidKinds := [.data, .data, .data, .data, .pinned], laidTests := true, laidLooks := .later }
def RolloutStagesUptoCardSaid : Prop := Claim7.holds Tryz.pinned (.plain (OpenSpec.upto rolloutStagesSpec)) rolloutStagesUptoCard

/-- THE SECOND FORM's CARD OF 'modcertlaw45.RolloutSelects'. -/
def rolloutSelectsUptoCard : Claim7 := { stood := { row := rolloutSelectsUptoRow, standIns := [], harness := (true, "afa96f8da45e8d07edfbd246bfaba062fb1b6b0c24ced5718944e989e68d6788"), looks := false }, kinds := [], alts := [], laidByText := true, laidKinds := [.data, .data, .data, .data, .pinned], laidTests := true, laidLooks := .later }
def RolloutSelectsUptoCardSaid : Prop := Claim7.holds Tryz.pinned (.plain (OpenSpec.upto rolloutSelectsSpec)) rolloutSelectsUptoCard

/-- THE SECOND FORM's CARD OF 'modcertlaw45.RolloutBackports'. -/
def rolloutBackportsUptoCard : Claim7 := { stood := { row := rolloutBackportsUptoRow, standIns := [], harness := (true, "afa96f8da45e8d07edfbd246bfaba062fb1b6b0c24ced5718944e989e68d6788"), looks := false }, kinds := [], alts := [], laidByText := true, laidKinds := [.data, .data, .data, .data, .pinned], laidTests := true, laidLooks := .later }
def RolloutBackportsUptoCardSaid : Prop := Claim7.holds Tryz.pinned (.plain (OpenSpec.upto rolloutBackportsSpec)) rolloutBackportsUptoCard

/-- THE SECOND FORM's CARD OF 'modcertlaw45.RolloutConsistent'. -/
def rolloutConsistentUptoCard : Claim7 := { stood := { row := rolloutConsistentUptoRow, standIns := [], harness := (true, "afa96f8da45e8d07edfbd246bfaba062fb1b6b0c24ced5718944e989e68d6788"), looks := false }, kinds := [], alts := [], laidByText := true, laidKinds := [.data, .data, .data, .data, .pinned], laidTests := true, laidLooks := .later }
def RolloutConsistentUptoCardSaid : Prop := Claim7.holds Tryz.pinned (.plain (OpenSpec.upto rolloutConsistentSpec)) rolloutConsistentUptoCard

/-- THE SECOND FORM's CARD OF 'modcertlaw45.RolloutForward'. -/
def rolloutForwardUptoCard : Claim7 := { stood := { row := rolloutForwardUptoRow, standIns := [], harness := (true, "afa96f8da45e8d07edfbd246bfaba062fb1b6b0c24ced5718944e989e68d6788"), looks := false }, kinds := [], alts := [], laidByText := true, laidKinds := [.data, .data, .data, .data, .pinned], laidTests := true, laidLooks := .later }
def RolloutForwardUptoCardSaid : Prop := Claim7.holds Tryz.pinned (.plain (OpenSpec.upto rolloutForwardSpec)) rolloutForwardUptoCard

/-- THE SECOND FORM's CARD OF 'modcertlaw45.RolloutCohorts'. -/
def rolloutCohortsUptoCard : Claim7 := { stood := { row := rolloutCohortsUptoRow, standIns := [], harness := (true, "afa96f8da45e8d07edfbd246bfaba062fb1b6b0c24ced5718944e989e68d6788"), looks := false }, kinds := [], alts := [], laidByText := true, laidKinds := [.data, .data, .data, .data, .pinned], laidTests := true, laidLooks := .later }
def RolloutCohortsUptoCardSaid : Prop := Claim7.holds Tryz.pinned (.plain (OpenSpec.upto rolloutCohortsSpec)) rolloutCohortsUptoCard

/-- THE SECOND FORM's CARD OF 'modcertlaw45.RolloutHelps'. -/
def rolloutHelpsUptoCard : Claim7 := { stood := { row := rolloutHelpsUptoRow, standIns := [], harness := (true, "afa96f8da45e8d07edfbd246bfaba062fb1b6b0c24ced5718944e989e68d6788"), looks := false }, kinds := [], alts := [], laidByText := true, laidKinds := [.data, .data, .data, .data, .pinned], laidTests := true, laidLooks := .later }
def RolloutHelpsUptoCardSaid : Prop := Claim7.holds Tryz.pinned (.plain (OpenSpec.upto rolloutHelpsSpec)) rolloutHelpsUptoCard
end Rows
end Go.Proofs.YteaiieomnhbmgaaGreatDoor
