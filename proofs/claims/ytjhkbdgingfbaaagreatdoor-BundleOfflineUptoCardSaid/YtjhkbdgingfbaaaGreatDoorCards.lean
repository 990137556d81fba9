/-
  DERIVED. GIVEN WITH THE SEED: THE CARDS: each row of YtjhkbdgingfbaaaGreatDoorRows.lean that lists a variable, with what it lists TIED to the program's text (the seventh form; the later family's looks); each row that meets fmt, with fmt's text TOLD by the authors' own Lean function (tested against real Go, not proved from fmt's source: count such statements apart). THE CARD IS WHAT COUNTS. Prove the row's statement (the work); the ties are given (YtjhkbdgingfbaaaGreatDoorTie.lean); close each card by the builder's one call (the guide's Derived/Test/ToyasCard.lean, 'card_holds'). Laid BY PROGRAM, IN A SANDBOX (cutbox-door.mjs). By AI agents, Wed Nov 11 2026. No macro, syntax, notation, axiom, sorry.
-/
import Derived.Test.YtjhkbdgingfbaaaGreatDoorRows
import GoSem.ClaimSeven
namespace Go.Proofs.YtjhkbdgingfbaaaGreatDoor
namespace Rows

/-- THE TIED CARD OF 'modcertlaw41.BundleMakes'. -/
def bundleMakesCard : Claim7 := { stood := { row := bundleMakesRow, standIns := [], harness := (true, "b475e2a046cd54e6e2777d17e4a0facce21d1fb9860b5677ea1406f24821e682"), looks := true }, kinds := [], alts := [], laidByText := true, laidKinds := [.data, .data, .data, .data, .sentinel, .sentinel, .pinned], laidTests := true, laidLooks := .later }
def BundleMakesCardSaid : Prop := Claim7.holds Tryz.pinned (.plain (OpenSpec.ofChange bundleMakesSpec)) bundleMakesCard

/-- THE TIED CARD OF 'modcertlaw41.BundleLists'. -/
def bundleListsCard : Claim7 := { stood := { row := bundleListsRow, standIns := [], harness := (true, "b475e2a046cd54e6e2777d17e4a0facce21d1fb9860b5677ea1406f24821e682"), looks := true }, kinds := [], alts := [], laidByText := true, laidKinds := [.data, .data, .data, .data, .sentinel, .sentinel, .pinned], laidTests := true, laidLooks := .later }
def BundleListsCardSaid : Prop := Claim7.holds Tryz.pinned (.plain (OpenSpec.ofChange bundleListsSpec)) bundleListsCard

/-- THE TIED CARD OF 'modcertlaw41.BundleReturns'. -/
def bundleReturnsCard : Claim7 := { stood := { row := bundleReturnsRow, standIns := [], harness := (true, "b475e2a046cd54e6e2777d17e4a0facce21d1fb9860b5677ea1406f24821e682"), looks := true }, kinds := [], alts := [], laidByText := true, laidKinds := [.data, .data, .data, .data, .sentinel, .sentinel, .pinned], laidTests := true, laidLooks := .later }
def BundleReturnsCardSaid : Prop := Claim7.holds Tryz.pinned (.plain (OpenSpec.ofChange bundleReturnsSpec)) bundleReturnsCard

/-- THE TIED CARD OF 'modcertlaw41.BundleDetects'. -/
def bundleDetectsCard : Claim7 := { stood := { row := bundleDetectsRow, standIns := [], harness := (true, "b475e2a046cd54e6e2777d17e4a0facce21d1fb9860b5677ea1406f24821e682"), looks := true }, kinds := [], alts := [], laidByText := true, laidKinds := [.data, .data, .data, .data, .sentinel, .sentinel, .pinned], laidTests := true, laidLooks := .later }
def BundleDetectsCardSaid : Prop := Claim7.holds Tryz.pinned (.plain (OpenSpec.ofChange bundleDetectsSpec)) bundleDetectsCard

/-- THE TIED CARD OF 'modcertlaw41.BundleChanges'. -/
def bundleChangesCard : Claim7 := { stood := { row := bundleChangesRow, standIns := [], harness := (true, "b475e2a046cd54e6e2777d17e4a0facce21d1fb9860b5677ea1406f24821e682"), looks := true }, kinds := [], alts := [], laidByText := true, laidKinds := [.data, .data, .data, .data, .sentinel, .sentinel, .pinned], laidTests := true, laidLooks := .later }
def BundleChangesCardSaid : Prop := Claim7.holds Tryz.pinned (.plain (OpenSpec.ofChange bundleChangesSpec)) bundleChangesCard

/-- THE TIED CARD OF 'modcertlaw41.BundleOffline'. -/
def bundleOfflineCard : Claim7 := { stood := { row := bundleOfflineRow, standIns := [], harness := (true, "b475e2a046cd54e6e2777d17e4a0facce21d1fb9860b5677ea1406f24821e682"), looks := true }, kinds := [], alts := [], laidByText := true, laidKinds := [.data, .data, .data, .data, .sentinel, .sentinel, .pinned], laidTests := true, laidLooks := .later }
def BundleOfflineCardSaid : Prop := Claim7.holds Tryz.pinned (.plain (OpenSpec.ofChange bundleOfflineSpec)) bundleOfflineCard

/-- THE SECOND FORM's CARD OF 'modcertlaw41.BundleMakes'. -/
def bundleMakesUptoCard : Claim7 := { stood := { row := bundleMakesUptoRow, standIns := [], harness := (true, "b475e2a046cd54e6e2777d17e4a0facce21d1fb9860b5677ea1406f24821e682"), looks := true }, kinds := [], alts := [], laidByText := true, laidKinds := [.data, .data, .data, .data, .sentinel, .sentinel, .pinned], laidTests := true, laidLooks := .later }
def BundleMakesUptoCardSaid : Prop := Claim7.holds Tryz.pinned (.plain (OpenSpec.upto bundleMakesSpec)) bundleMakesUptoCard

/-- THE SECOND FORM's CARD OF 'modcertlaw41.BundleLists'. -/
def bundleListsUptoCard : Claim7 := { stood := { row := bundleListsUptoRow, standIns := [], harness := (true, "b475e2a046cd54e6e2777d17e4a0facce21d1fb9860b5677ea1406f24821e682"), looks := true }, kinds := [], alts := [], laidByText := true, laidKinds := [.data, .data, .data, .data, .sentinel, .sentinel, .pinned], laidTests := true, laidLooks := .later }
def BundleListsUptoCardSaid : Prop := Claim7.holds Tryz.pinned (.plain (OpenSpec.upto bundleListsSpec)) bundleListsUptoCard

/-- THE SECOND FORM's CARD OF 'modcertlaw41.BundleReturns'. -/
def bundleReturnsUptoCard : Claim7 := { stood := { row := bundleReturnsUptoRow, standIns := [], harness := (true, "b475e2a046cd54e6e2777d17e4a0facce21d1fb9860b5677ea1406f24821e682"), looks := true }, kinds := [], alts := [], laidByText := true, laidKinds := [.data, .data, .data, .data, .sentinel, .sentinel, .pinned], laidTests := true, laidLooks := .later }
def BundleReturnsUptoCardSaid : Prop := Claim7.holds Tryz.pinned (.plain (OpenSpec.upto bundleReturnsSpec)) bundleReturnsUptoCard

/-- THE SECOND FORM's CARD OF 'modcertlaw41.BundleDetects'. -/
def bundleDetectsUptoCard : Claim7 := { stood := { row := bundleDetectsUptoRow, standIns := [], harness := (true, "b475e2a046cd54e6e2777d17e4a0facce21d1fb9860b5677ea1406f24821e682"), looks := true }, kinds := [], alts := [], laidByText := true, laidKinds := [.data, .data, .data, .data, .sentinel, .sentinel, .pinned], laidTests := true, laidLooks := .later }
def BundleDetectsUptoCardSaid : Prop := Claim7.holds Tryz.pinned (.plain (OpenSpec.upto bundleDetectsSpec)) bundleDetectsUptoCard

/-- THE SECOND FORM's CARD OF 'modcertlaw41.BundleChanges'. -/
def bundleChangesUptoCard : Claim7 := { stood := { row := bundleChangesUptoRow, standIns := [], harness := (true, "b475e2a046cd54e6e2777d17e4a0facce21d1fb9860b5677ea1406f24821e682"), looks := true }, kinds := [], alts := [], laidByText := true, laidKinds := [.data, .data, .data, .data, .sentinel, .sentinel, .pinned], laidTests := true, laidLooks := .later }
def BundleChangesUptoCardSaid : Prop := Claim7.holds Tryz.pinned (.plain (OpenSpec.upto bundleChangesSpec)) bundleChangesUptoCard

/-- THE SECOND FORM's CARD OF 'modcertlaw41.BundleOffline'. -/
def bundleOfflineUptoCard : Claim7 := { stood := { row := bundleOfflineUptoRow, standIns := [], harness := (true, "b475e2a046cd54e6e2777d17e4a0facce21d1fb9860b5677ea1406f24821e682"), looks := true }, kinds := [], alts := [], laidByText := true, laidKinds := [.data, .data, .data, .data, .sentinel, .sentinel, .pinned], laidTests := true, laidLooks := .later }
def BundleOfflineUptoCardSaid : Prop := Claim7.holds Tryz.pinned (.plain (OpenSpec.upto bundleOfflineSpec)) bundleOfflineUptoCard
end Rows
end Go.Proofs.YtjhkbdgingfbaaaGreatDoor
