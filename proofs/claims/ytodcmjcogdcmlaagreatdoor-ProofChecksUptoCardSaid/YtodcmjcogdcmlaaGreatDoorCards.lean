/-
  DERIVED. GIVEN WITH THE SEED: THE CARDS: each row of YtodcmjcogdcmlaaGreatDoorRows.lean that lists a variable, with what it lists TIED to the program's text (the seventh form; the later family's looks); each row that meets fmt, with fmt's text TOLD by the authors' own Lean function (tested against real Go, not proved from fmt's source: count such statements apart). THE CARD IS WHAT COUNTS. Prove the row's statement (the work); the ties are given (YtodcmjcogdcmlaaGreatDoorTie.lean); close each card by the builder's one call (the guide's Derived/Test/ToyasCard.lean, 'card_holds'). Laid BY PROGRAM, IN A SANDBOX (cutbox-door.mjs). By AI agents, Wed Nov 11 2026. No macro, syntax, notation, axiom, sorry.
-/
import Derived.Test.YtodcmjcogdcmlaaGreatDoorRows
import GoSem.ClaimSeven
namespace Go.Proofs.YtodcmjcogdcmlaaGreatDoor
namespace Rows

/-- THE TIED CARD OF 'modcertlaw36.ProofDerives'. -/
def proofDerivesCard : Claim7 := { stood := { row := proofDerivesRow, standIns := [], harness := (true, "1b61894872739943555f6c9077502ea1cb2ed480870612c06abc0609339bbea4"), looks := false }, kinds := [], alts := [], laidByText := true, laidKinds := [.data, .pinned], laidTests := true, laidLooks := .later }
def ProofDerivesCardSaid : Prop := Claim7.holds Tryz.pinned (.plain (OpenSpec.ofChange proofDerivesSpec)) proofDerivesCard

/-- THE TIED CARD OF 'modcertlaw36.ProofChecks'. -/
def proofChecksCard : Claim7 := { stood := { row := proofChecksRow, standIns := [], harness := (true, "1b61894872739943555f6c9077502ea1cb2ed480870612c06abc0609339bbea4"), looks := false }, kinds := [], alts := [], laidByText := true, laidKinds := [.data, .pinned], laidTests := true, laidLooks := .later }
def ProofChecksCardSaid : Prop := Claim7.holds Tryz.pinned (.plain (OpenSpec.ofChange proofChecksSpec)) proofChecksCard

/-- THE TIED CARD OF 'modcertlaw36.ProofSound'. -/
def proofSoundCard : Claim7 := { stood := { row := proofSoundRow, standIns := [], harness := (true, "1b61894872739943555f6c9077502ea1cb2ed480870612c06abc0609339bbea4"), looks := false }, kinds := [], alts := [], laidByText := true, laidKinds := [.data, .pinned], laidTests := true, laidLooks := .later }
def ProofSoundCardSaid : Prop := Claim7.holds Tryz.pinned (.plain (OpenSpec.ofChange proofSoundSpec)) proofSoundCard

/-- THE TIED CARD OF 'modcertlaw36.ProofUnique'. -/
def proofUniqueCard : Claim7 := { stood := { row := proofUniqueRow, standIns := [], harness := (true, "1b61894872739943555f6c9077502ea1cb2ed480870612c06abc0609339bbea4"), looks := false }, kinds := [], alts := [], laidByText := true, laidKinds := [.data, .pinned], laidTests := true, laidLooks := .later }
def ProofUniqueCardSaid : Prop := Claim7.holds Tryz.pinned (.plain (OpenSpec.ofChange proofUniqueSpec)) proofUniqueCard

/-- THE TIED CARD OF 'modcertlaw36.ProofFirst'. -/
def proofFirstCard : Claim7 := { stood := { row := proofFirstRow, standIns := [], harness := (true, "1b61894872739943555f6c9077502ea1cb2ed480870612c06abc0609339bbea4"), looks := false }, kinds := [], alts := [], laidByText := true, laidKinds := [.data, .pinned], laidTests := true, laidLooks := .later }
def ProofFirstCardSaid : Prop := Claim7.holds Tryz.pinned (.plain (OpenSpec.ofChange proofFirstSpec)) proofFirstCard

/-- THE TIED CARD OF 'modcertlaw36.ProofPrefix'. -/
def proofPrefixCard : Claim7 := { stood := { row := proofPrefixRow, standIns := [], harness := (true, "1b61894872739943555f6c9077502ea1cb2ed480870612c06abc0609339bbea4"), looks := false }, kinds := [], alts := [], laidByText := true, laidKinds := [.data, .pinned], laidTests := true, laidLooks := .later }
def ProofPrefixCardSaid : Prop := Claim7.holds Tryz.pinned (.plain (OpenSpec.ofChange proofPrefixSpec)) proofPrefixCard

/-- THE TIED CARD OF 'modcertlaw36.ProofTampers'. -/
def proofTampersCard : Claim7 := { stood := { row := proofTampersRow, standIns := [], harness := (true, "1b61894872739943555f6c9077502ea1cb2ed480870612c06abc0609339bbea4"), looks := false }, kinds := [], alts := [], laidByText := true, laidKinds := [.data, .pinned], laidTests := true, laidLooks := .later }
def ProofTampersCardSaid : Prop := Claim7.holds Tryz.pinned (.plain (OpenSpec.ofChange proofTampersSpec)) proofTampersCard

/-- THE SECOND FORM's CARD OF 'modcertlaw36.ProofDerives'. -/
def proofDerivesUptoCard : Claim7 := { stood := { row := proofDerivesUptoRow, standIns := [], harness := (true, "1b61894872739943555f6c9077502ea1cb2ed480870612c06abc0609339bbea4"), looks := false }, kinds := [], alts := [], laidByText := true, laidKinds := [.data, .pinned], laidTests := true, laidLooks := .later }
def ProofDerivesUptoCardSaid : Prop := Claim7.holds Tryz.pinned (.plain (OpenSpec.upto proofDerivesSpec)) proofDerivesUptoCard

/-- THE SECOND FORM's CARD OF 'modcertlaw36.ProofChecks'. -/
def proofChecksUptoCard : Claim7 := { stood := { row := proofChecksUptoRow, standIns := [], harness := (true, "1b61894872739943555f6c9077502ea1cb2ed480870612c06abc0609339bbea4"), looks := false }, kinds := [], alts := [], laidByText := true, laidKinds := [.data, .pinned], laidTests := true, laidLooks := .later }
def ProofChecksUptoCardSaid : Prop := Claim7.holds Tryz.pinned (.plain (OpenSpec.upto proofChecksSpec)) proofChecksUptoCard

/-- THE SECOND FORM's CARD OF 'modcertlaw36.ProofSound'. -/
def proofSoundUptoCard : Claim7 := { stood := { row := proofSoundUptoRow, standIns := [], harness := (true, "1b61894872739943555f6c9077502ea1cb2ed480870612c06abc0609339bbea4"), looks := false }, kinds := [], alts := [], laidByText := true, laidKinds := [.data, .pinned], laidTests := true, laidLooks := .later }
def ProofSoundUptoCardSaid : Prop := Claim7.holds Tryz.pinned (.plain (OpenSpec.upto proofSoundSpec)) proofSoundUptoCard

/-- THE SECOND FORM's CARD OF 'modcertlaw36.ProofUnique'. -/
def proofUniqueUptoCard : Claim7 := { stood := { row := proofUniqueUptoRow, standIns := [], harness := (true, "1b61894872739943555f6c9077502ea1cb2ed480870612c06abc0609339bbea4"), looks := false }, kinds := [], alts := [], laidByText := true, laidKinds := [.data, .pinned], laidTests := true, laidLooks := .later }
def ProofUniqueUptoCardSaid : Prop := Claim7.holds Tryz.pinned (.plain (OpenSpec.upto proofUniqueSpec)) proofUniqueUptoCard

/-- THE SECOND FORM's CARD OF 'modcertlaw36.ProofFirst'. -/
def proofFirstUptoCard : Claim7 := { stood := { row := proofFirstUptoRow, standIns := [], harness := (true, "1b61894872739943555f6c9077502ea1cb2ed480870612c06abc0609339bbea4"), looks := false }, kinds := [], alts := [], laidByText := true, laidKinds := [.data, .pinned], laidTests := true, laidLooks := .later }
def ProofFirstUptoCardSaid : Prop := Claim7.holds Tryz.pinned (.plain (OpenSpec.upto proofFirstSpec)) proofFirstUptoCard

/-- THE SECOND FORM's CARD OF 'modcertlaw36.ProofPrefix'. -/
def proofPrefixUptoCard : Claim7 := { stood := { row := proofPrefixUptoRow, standIns := [], harness := (true, "1b61894872739943555f6c9077502ea1cb2ed480870612c06abc0609339bbea4"), looks := false }, kinds := [], alts := [], laidByText := true, laidKinds := [.data, .pinned], laidTests := true, laidLooks := .later }
def ProofPrefixUptoCardSaid : Prop := Claim7.holds Tryz.pinned (.plain (OpenSpec.upto proofPrefixSpec)) proofPrefixUptoCard

/-- THE SECOND FORM's CARD OF 'modcertlaw36.ProofTampers'. -/
def proofTampersUptoCard : Claim7 := { stood := { row := proofTampersUptoRow, standIns := [], harness := (true, "1b61894872739943555f6c9077502ea1cb2ed480870612c06abc0609339bbea4"), looks := false }, kinds := [], alts := [], laidByText := true, laidKinds := [.data, .pinned], laidTests := true, laidLooks := .later }
def ProofTampersUptoCardSaid : Prop := Claim7.holds Tryz.pinned (.plain (OpenSpec.upto proofTampersSpec)) proofTampersUptoCard
end Rows
end Go.Proofs.YtodcmjcogdcmlaaGreatDoor
