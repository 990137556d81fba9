/-
  DERIVED. GIVEN WITH THE SEED: THE CARDS: each row of YtkjhcikodmiceaaGreatDoorRows.lean that lists a variable, with what it lists TIED to the program's text (the seventh form; the later family's looks); each row that meets fmt, with fmt's text TOLD by the authors' own Lean function (tested against real Go, not proved from fmt's source: count such statements apart). THE CARD IS WHAT COUNTS. Prove the row's statement (the work); the ties are given (YtkjhcikodmiceaaGreatDoorTie.lean); close each card by the builder's one call (the guide's Derived/Test/ToyasCard.lean, 'card_holds'). Laid BY PROGRAM, IN A SANDBOX (cutbox-door.mjs). By AI agents, Wed Nov 11 2026. No macro, syntax, notation, axiom, sorry.
-/
import Derived.Test.YtkjhcikodmiceaaGreatDoorRows
import GoSem.ClaimSeven
namespace Go.Proofs.YtkjhcikodmiceaaGreatDoor
namespace Rows

/-- THE TIED CARD OF 'modcertlaw39.LockMakes'. -/
def lockMakesCard : Claim7 := { stood := { row := lockMakesRow, standIns := [], harness := (true, "c038328c0159c749f38072b77622cf6691a27ae848d987071edd1726c727ea36"), looks := true }, kinds := [], alts := [], laidByText := true, laidKinds := [.data, .pinned], laidTests := true, laidLooks := .later }
def LockMakesCardSaid : Prop := Claim7.holds Tryz.pinned (.plain (OpenSpec.ofChange lockMakesSpec)) lockMakesCard

/-- THE TIED CARD OF 'modcertlaw39.LockUnique'. -/
def lockUniqueCard : Claim7 := { stood := { row := lockUniqueRow, standIns := [], harness := (true, "c038328c0159c749f38072b77622cf6691a27ae848d987071edd1726c727ea36"), looks := true }, kinds := [], alts := [], laidByText := true, laidKinds := [.data, .pinned], laidTests := true, laidLooks := .later }
def LockUniqueCardSaid : Prop := Claim7.holds Tryz.pinned (.plain (OpenSpec.ofChange lockUniqueSpec)) lockUniqueCard

/-- THE TIED CARD OF 'modcertlaw39.LockTampers'. -/
def lockTampersCard : Claim7 := { stood := { row := lockTampersRow, standIns := [], harness := (true, "c038328c0159c749f38072b77622cf6691a27ae848d987071edd1726c727ea36"), looks := true }, kinds := [], alts := [], laidByText := true, laidKinds := [.data, .pinned], laidTests := true, laidLooks := .later }
def LockTampersCardSaid : Prop := Claim7.holds Tryz.pinned (.plain (OpenSpec.ofChange lockTampersSpec)) lockTampersCard

/-- THE TIED CARD OF 'modcertlaw39.LockVerifies'. -/
def lockVerifiesCard : Claim7 := { stood := { row := lockVerifiesRow, standIns := [], harness := (true, "c038328c0159c749f38072b77622cf6691a27ae848d987071edd1726c727ea36"), looks := true }, kinds := [], alts := [], laidByText := true, laidKinds := [.data, .pinned], laidTests := true, laidLooks := .later }
def LockVerifiesCardSaid : Prop := Claim7.holds Tryz.pinned (.plain (OpenSpec.ofChange lockVerifiesSpec)) lockVerifiesCard

/-- THE TIED CARD OF 'modcertlaw39.LockReturns'. -/
def lockReturnsCard : Claim7 := { stood := { row := lockReturnsRow, standIns := [], harness := (true, "c038328c0159c749f38072b77622cf6691a27ae848d987071edd1726c727ea36"), looks := true }, kinds := [], alts := [], laidByText := true, laidKinds := [.data, .pinned], laidTests := true, laidLooks := .later }
def LockReturnsCardSaid : Prop := Claim7.holds Tryz.pinned (.plain (OpenSpec.ofChange lockReturnsSpec)) lockReturnsCard

/-- THE TIED CARD OF 'modcertlaw39.LockCodes'. -/
def lockCodesCard : Claim7 := { stood := { row := lockCodesRow, standIns := [], harness := (true, "c038328c0159c749f38072b77622cf6691a27ae848d987071edd1726c727ea36"), looks := true }, kinds := [], alts := [], laidByText := true, laidKinds := [.data, .pinned], laidTests := true, laidLooks := .later }
def LockCodesCardSaid : Prop := Claim7.holds Tryz.pinned (.plain (OpenSpec.ofChange lockCodesSpec)) lockCodesCard

/-- THE SECOND FORM's CARD OF 'modcertlaw39.LockMakes'. -/
def lockMakesUptoCard : Claim7 := { stood := { row := lockMakesUptoRow, standIns := [], harness := (true, "c038328c0159c749f38072b77622cf6691a27ae848d987071edd1726c727ea36"), looks := true }, kinds := [], alts := [], laidByText := true, laidKinds := [.data, .pinned], laidTests := true, laidLooks := .later }
def LockMakesUptoCardSaid : Prop := Claim7.holds Tryz.pinned (.plain (OpenSpec.upto lockMakesSpec)) lockMakesUptoCard

/-- THE SECOND FORM's CARD OF 'modcertlaw39.LockUnique'. -/
def lockUniqueUptoCard : Claim7 := { stood := { row := lockUniqueUptoRow, standIns := [], harness := (true, "c038328c0159c749f38072b77622cf6691a27ae848d987071edd1726c727ea36"), looks := true }, kinds := [], alts := [], laidByText := true, laidKinds := [.data, .pinned], laidTests := true, laidLooks := .later }
def LockUniqueUptoCardSaid : Prop := Claim7.holds Tryz.pinned (.plain (OpenSpec.upto lockUniqueSpec)) lockUniqueUptoCard

/-- THE SECOND FORM's CARD OF 'modcertlaw39.LockTampers'. -/
def lockTampersUptoCard : Claim7 := { stood := { row := lockTampersUptoRow, standIns := [], harness := (true, "c038328c0159c749f38072b77622cf6691a27ae848d987071edd1726c727ea36"), looks := true }, kinds := [], alts := [], laidByText := true, laidKinds := [.data, .pinned], laidTests := true, laidLooks := .later }
def LockTampersUptoCardSaid : Prop := Claim7.holds Tryz.pinned (.plain (OpenSpec.upto lockTampersSpec)) lockTampersUptoCard

/-- THE SECOND FORM's CARD OF 'modcertlaw39.LockVerifies'. -/
def lockVerifiesUptoCard : Claim7 := { stood := { row := lockVerifiesUptoRow, standIns := [], harness := (true, "c038328c0159c749f38072b77622cf6691a27ae848d987071edd1726c727ea36"), looks := true }, kinds := [], alts := [], laidByText := true, laidKinds := [.data, .pinned], laidTests := true, laidLooks := .later }
def LockVerifiesUptoCardSaid : Prop := Claim7.holds Tryz.pinned (.plain (OpenSpec.upto lockVerifiesSpec)) lockVerifiesUptoCard

/-- THE SECOND FORM's CARD OF 'modcertlaw39.LockReturns'. -/
def lockReturnsUptoCard : Claim7 := { stood := { row := lockReturnsUptoRow, standIns := [], harness := (true, "c038328c0159c749f38072b77622cf6691a27ae848d987071edd1726c727ea36"), looks := true }, kinds := [], alts := [], laidByText := true, laidKinds := [.data, .pinned], laidTests := true, laidLooks := .later }
def LockReturnsUptoCardSaid : Prop := Claim7.holds Tryz.pinned (.plain (OpenSpec.upto lockReturnsSpec)) lockReturnsUptoCard

/-- THE SECOND FORM's CARD OF 'modcertlaw39.LockCodes'. -/
def lockCodesUptoCard : Claim7 := { stood := { row := lockCodesUptoRow, standIns := [], harness := (true, "c038328c0159c749f38072b77622cf6691a27ae848d987071edd1726c727ea36"), looks := true }, kinds := [], alts := [], laidByText := true, laidKinds := [.data, .pinned], laidTests := true, laidLooks := .later }
def LockCodesUptoCardSaid : Prop := Claim7.holds Tryz.pinned (.plain (OpenSpec.upto lockCodesSpec)) lockCodesUptoCard
end Rows
end Go.Proofs.YtkjhcikodmiceaaGreatDoor
