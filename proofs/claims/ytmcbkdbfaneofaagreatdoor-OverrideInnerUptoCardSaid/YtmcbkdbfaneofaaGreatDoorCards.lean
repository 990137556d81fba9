/-
  DERIVED. GIVEN WITH THE SEED: THE CARDS: each row of YtmcbkdbfaneofaaGreatDoorRows.lean that lists a variable, with what it lists TIED to the program's text (the seventh form; the later family's looks); each row that meets fmt, with fmt's text TOLD by the authors' own Lean function (tested against real Go, not proved from fmt's source: count such statements apart). THE CARD IS WHAT COUNTS. Prove the row's statement (the work); the ties are given (YtmcbkdbfaneofaaGreatDoorTie.lean); close each card by the builder's one call (the guide's Derived/Test/ToyasCard.lean, 'card_holds'). Laid BY PROGRAM, IN A SANDBOX (cutbox-door.mjs). By AI agents, Wed Nov 11 2026. No macro, syntax, notation, axiom, sorry.
-/
import Derived.Test.YtmcbkdbfaneofaaGreatDoorRows
import GoSem.ClaimSeven
namespace Go.Proofs.YtmcbkdbfaneofaaGreatDoor
namespace Rows

/-- THE TIED CARD OF 'modcertlaw40.OverrideApplies'. -/
def overrideAppliesCard : Claim7 := { stood := { row := overrideAppliesRow, standIns := [], harness := (true, "92e081a81a4fd088af4f74397da0898f5ff0c9fa68a8df7a713a917deba6ab6b"), looks := false }, kinds := [], alts := [], laidByText := true, laidKinds := [.data, .pinned], laidTests := true, laidLooks := .later }
def OverrideAppliesCardSaid : Prop := Claim7.holds Tryz.pinned (.plain (OpenSpec.ofChange overrideAppliesSpec)) overrideAppliesCard

/-- THE TIED CARD OF 'modcertlaw40.OverrideMerges'. -/
def overrideMergesCard : Claim7 := { stood := { row := overrideMergesRow, standIns := [], harness := (true, "92e081a81a4fd088af4f74397da0898f5ff0c9fa68a8df7a713a917deba6ab6b"), looks := false }, kinds := [], alts := [], laidByText := true, laidKinds := [.data, .pinned], laidTests := true, laidLooks := .later }
def OverrideMergesCardSaid : Prop := Claim7.holds Tryz.pinned (.plain (OpenSpec.ofChange overrideMergesSpec)) overrideMergesCard

/-- THE TIED CARD OF 'modcertlaw40.OverrideTwice'. -/
def overrideTwiceCard : Claim7 := { stood := { row := overrideTwiceRow, standIns := [], harness := (true, "92e081a81a4fd088af4f74397da0898f5ff0c9fa68a8df7a713a917deba6ab6b"), looks := false }, kinds := [], alts := [], laidByText := true, laidKinds := [.data, .pinned], laidTests := true, laidLooks := .later }
def OverrideTwiceCardSaid : Prop := Claim7.holds Tryz.pinned (.plain (OpenSpec.ofChange overrideTwiceSpec)) overrideTwiceCard

/-- THE TIED CARD OF 'modcertlaw40.OverrideUnits'. -/
def overrideUnitsCard : Claim7 := { stood := { row := overrideUnitsRow, standIns := [], harness := (true, "92e081a81a4fd088af4f74397da0898f5ff0c9fa68a8df7a713a917deba6ab6b"), looks := false }, kinds := [], alts := [], laidByText := true, laidKinds := [.data, .pinned], laidTests := true, laidLooks := .later }
def OverrideUnitsCardSaid : Prop := Claim7.holds Tryz.pinned (.plain (OpenSpec.ofChange overrideUnitsSpec)) overrideUnitsCard

/-- THE TIED CARD OF 'modcertlaw40.OverrideInner'. -/
def overrideInnerCard : Claim7 := { stood := { row := overrideInnerRow, standIns := [], harness := (true, "92e081a81a4fd088af4f74397da0898f5ff0c9fa68a8df7a713a917deba6ab6b"), looks := false }, kinds := [], alts := [], laidByText := true, laidKinds := [.data, .pinned], laidTests := true, laidLooks := .later }
def OverrideInnerCardSaid : Prop := Claim7.holds Tryz.pinned (.plain (OpenSpec.ofChange overrideInnerSpec)) overrideInnerCard

/-- THE TIED CARD OF 'modcertlaw40.OverrideHolds'. -/
def overrideHoldsCard : Claim7 := { stood := { row := overrideHoldsRow, standIns := [], harness := (true, "92e081a81a4fd088af4f74397da0898f5ff0c9fa68a8df7a713a917deba6ab6b"), looks := false }, kinds := [], alts := [], laidByText := true, laidKinds := [.data, .pinned], laidTests := true, laidLooks := .later }
def OverrideHoldsCardSaid : Prop := Claim7.holds Tryz.pinned (.plain (OpenSpec.ofChange overrideHoldsSpec)) overrideHoldsCard

/-- THE SECOND FORM's CARD OF 'modcertlaw40.OverrideApplies'. -/
def overrideAppliesUptoCard : Claim7 := { stood := { row := overrideAppliesUptoRow, standIns := [], harness := (true, "92e081a81a4fd088af4f74397da0898f5ff0c9fa68a8df7a713a917deba6ab6b"), looks := false }, kinds := [], alts := [], laidByText := true, laidKinds := [.data, .pinned], laidTests := true, laidLooks := .later }
def OverrideAppliesUptoCardSaid : Prop := Claim7.holds Tryz.pinned (.plain (OpenSpec.upto overrideAppliesSpec)) overrideAppliesUptoCard

/-- THE SECOND FORM's CARD OF 'modcertlaw40.OverrideMerges'. -/
def overrideMergesUptoCard : Claim7 := { stood := { row := overrideMergesUptoRow, standIns := [], harness := (true, "92e081a81a4fd088af4f74397da0898f5ff0c9fa68a8df7a713a917deba6ab6b"), looks := false }, kinds := [], alts := [], laidByText := true, laidKinds := [.data, .pinned], laidTests := true, laidLooks := .later }
def OverrideMergesUptoCardSaid : Prop := Claim7.holds Tryz.pinned (.plain (OpenSpec.upto overrideMergesSpec)) overrideMergesUptoCard

/-- THE SECOND FORM's CARD OF 'modcertlaw40.OverrideTwice'. -/
def overrideTwiceUptoCard : Claim7 := { stood := { row := overrideTwiceUptoRow, standIns := [], harness := (true, "92e081a81a4fd088af4f74397da0898f5ff0c9fa68a8df7a713a917deba6ab6b"), looks := false }, kinds := [], alts := [], laidByText := true, laidKinds := [.data, .pinned], laidTests := true, laidLooks := .later }
def OverrideTwiceUptoCardSaid : Prop := Claim7.holds Tryz.pinned (.plain (OpenSpec.upto overrideTwiceSpec)) overrideTwiceUptoCard

/-- THE SECOND FORM's CARD OF 'modcertlaw40.OverrideUnits'. -/
def overrideUnitsUptoCard : Claim7 := { stood := { row := overrideUnitsUptoRow, standIns := [], harness := (true, "92e081a81a4fd088af4f74397da0898f5ff0c9fa68a8df7a713a917deba6ab6b"), looks := false }, kinds := [], alts := [], laidByText := true, laidKinds := [.data, .pinned], laidTests := true, laidLooks := .later }
def OverrideUnitsUptoCardSaid : Prop := Claim7.holds Tryz.pinned (.plain (OpenSpec.upto overrideUnitsSpec)) overrideUnitsUptoCard

/-- THE SECOND FORM's CARD OF 'modcertlaw40.OverrideInner'. -/
def overrideInnerUptoCard : Claim7 := { stood := { row := overrideInnerUptoRow, standIns := [], harness := (true, "92e081a81a4fd088af4f74397da0898f5ff0c9fa68a8df7a713a917deba6ab6b"), looks := false }, kinds := [], alts := [], laidByText := true, laidKinds := [.data, .pinned], laidTests := true, laidLooks := .later }
def OverrideInnerUptoCardSaid : Prop := Claim7.holds Tryz.pinned (.plain (OpenSpec.upto overrideInnerSpec)) overrideInnerUptoCard

/-- THE SECOND FORM's CARD OF 'modcertlaw40.OverrideHolds'. -/
def overrideHoldsUptoCard : Claim7 := { stood := { row := overrideHoldsUptoRow, standIns := [], harness := (true, "92e081a81a4fd088af4f74397da0898f5ff0c9fa68a8df7a713a917deba6ab6b"), looks := false }, kinds := [], alts := [], laidByText := true, laidKinds := [.data, .pinned], laidTests := true, laidLooks := .later }
def OverrideHoldsUptoCardSaid : Prop := Claim7.holds Tryz.pinned (.plain (OpenSpec.upto overrideHoldsSpec)) overrideHoldsUptoCard
end Rows
end Go.Proofs.YtmcbkdbfaneofaaGreatDoor
