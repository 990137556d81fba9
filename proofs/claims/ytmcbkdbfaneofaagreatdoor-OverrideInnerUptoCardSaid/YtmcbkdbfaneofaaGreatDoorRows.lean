/-
  NARROWER THAN 'FOR EVERY INPUT', by the rows' own cells (each row's printed sentence says how): OverrideApplies: loops, laid · OverrideMerges: laid · OverrideTwice: loops, laid · OverrideUnits: laid · OverrideInner: laid · OverrideHolds: loops, laid.
  DERIVED. THE GIVEN ROWS OF THIS SEAT. 6 by the template 'for every input the law returns true; each argument reads behind the call as it read before'; 0 by the template 'total and deterministic' (their statements: YtmcbkdbfaneofaaGreatDoorTotals.lean).
  GIVEN WITH THE SEED: the statements are not yours to turn. If you find one false, say at which input.
  Laid BY PROGRAM, IN A SANDBOX (cutbox-rows.mjs): the forced cells as the released guide's own fill.sh prints them over the translation 78c39c9a62f1a8f3… (all of the seat's roots in one cut). By AI agents, Wed Nov 11 2026. No macro, syntax, notation, axiom, sorry.
-/
import Derived.Test.YtmcbkdbfaneofaaGreatDoorChecked
import GoSem.PinnedTables
import GoSem.Claim
import GoSem.ClaimJoined
import GoSem.ClaimMapViews
import Derived.JoinedTies
import Derived.KernelRfl
namespace Go.Proofs.YtmcbkdbfaneofaaGreatDoor
/- THE CELL 'sum', in the pinned program and in every row, IS THE sha256 OF THE DUMP (.gsa) THAT YtmcbkdbfaneofaaGreatDoorProg.lean LOADS. Nothing in Lean hashes anything: it is a label: what it is worth is what the hold of that sum in a sandbox is worth. -/
noncomputable def Tryz.pinned : Pinned := { name := "ytmcbkdbfaneofaagreatdoor", sum := "78c39c9a62f1a8f32a4b48eb0299b050bedfdf96a87918b4ad706ddd63d7c272", checked := Tryz.checked }
namespace Rows
def none {H : Type} : Left H := { results := [], args := [] }

/- WHAT THE LISTED PACKAGE-LEVEL VARIABLES READ AS WHEN THE CALL BEGINS. Each datum BY PROGRAM (the guide's laid-datum.mjs) off the statement by which the dump's own 'gosem.cut.vars' lays the variable. In a bare row this is a premise. The card (YtmcbkdbfaneofaaGreatDoorCards.lean) ties it to the program's text. -/
def laid_unicode_utf8_acceptRanges {H : Type} : DataW H := .agg [.agg [.lit (.int .u8 128), .lit (.int .u8 191)], .agg [.lit (.int .u8 160), .lit (.int .u8 191)], .agg [.lit (.int .u8 128), .lit (.int .u8 159)], .agg [.lit (.int .u8 144), .lit (.int .u8 191)], .agg [.lit (.int .u8 128), .lit (.int .u8 143)], .agg [.lit (.int .u8 0), .lit (.int .u8 0)], .agg [.lit (.int .u8 0), .lit (.int .u8 0)], .agg [.lit (.int .u8 0), .lit (.int .u8 0)], .agg [.lit (.int .u8 0), .lit (.int .u8 0)], .agg [.lit (.int .u8 0), .lit (.int .u8 0)], .agg [.lit (.int .u8 0), .lit (.int .u8 0)], .agg [.lit (.int .u8 0), .lit (.int .u8 0)], .agg [.lit (.int .u8 0), .lit (.int .u8 0)], .agg [.lit (.int .u8 0), .lit (.int .u8 0)], .agg [.lit (.int .u8 0), .lit (.int .u8 0)], .agg [.lit (.int .u8 0), .lit (.int .u8 0)]]
/-- One of Go's own tables, pinned by name: the form's constant. -/
def laid_unicode_utf8_first : DataW Unit := Go.Pinned.utf8First

/-- 'modcertlaw40.OverrideApplies': WHATEVER THE INPUT: true; the input reads as it did. -/
def overrideAppliesSpec : ChangeSpec := { name := "overrideApplies", fn := fun _ => fun
  | [d1, d2] => { results := [.lit (.bool true)], args := [d1, d2] }
  | _ => none }
def overrideAppliesRow : OpenClaim := { program := "ytmcbkdbfaneofaagreatdoor", sum := "78c39c9a62f1a8f32a4b48eb0299b050bedfdf96a87918b4ad706ddd63d7c272", func := "modcert/modcertlaw40.OverrideApplies", spec := "overrideApplies", inPlace := ["internal/bytealg.CountString", "internal/bytealg.IndexByteString", "internal/bytealg.IndexString", "internal/bytealg.abigen_runtime_cmpstring"], unfollowed := true, recurses := true, named := ["unicode/utf8.first", "unicode/utf8.acceptRanges", "internal/bytealg.MaxLen"], loops := true, plainKeys := false, apart := false, laid := [("unicode/utf8.acceptRanges", laid_unicode_utf8_acceptRanges), ("unicode/utf8.first", laid_unicode_utf8_first)] }
def OverrideAppliesSaid : Prop := overrideAppliesRow.holds Tryz.pinned (OpenSpec.ofChange overrideAppliesSpec)

/-- ITS FALSE NEIGHBOUR: 'it returns false'. Refute it at one input. -/
def overrideAppliesWrong : ChangeSpec := { name := "overrideApplies", fn := fun _ => fun
  | [d1, d2] => { results := [.lit (.bool false)], args := [d1, d2] }
  | _ => none }
def OverrideAppliesWrongFalsely : Prop := overrideAppliesRow.holds Tryz.pinned (OpenSpec.ofChange overrideAppliesWrong)

/-- 'modcertlaw40.OverrideMerges': WHATEVER THE INPUT: true; the input reads as it did. -/
def overrideMergesSpec : ChangeSpec := { name := "overrideMerges", fn := fun _ => fun
  | [d1, d2] => { results := [.lit (.bool true)], args := [d1, d2] }
  | _ => none }
def overrideMergesRow : OpenClaim := { program := "ytmcbkdbfaneofaagreatdoor", sum := "78c39c9a62f1a8f32a4b48eb0299b050bedfdf96a87918b4ad706ddd63d7c272", func := "modcert/modcertlaw40.OverrideMerges", spec := "overrideMerges", inPlace := ["internal/bytealg.CountString", "internal/bytealg.IndexByteString", "internal/bytealg.IndexString", "internal/bytealg.abigen_runtime_cmpstring"], unfollowed := true, recurses := true, named := ["unicode/utf8.first", "unicode/utf8.acceptRanges", "internal/bytealg.MaxLen"], plainKeys := false, apart := false, laid := [("unicode/utf8.acceptRanges", laid_unicode_utf8_acceptRanges), ("unicode/utf8.first", laid_unicode_utf8_first)] }
def OverrideMergesSaid : Prop := overrideMergesRow.holds Tryz.pinned (OpenSpec.ofChange overrideMergesSpec)

/-- ITS FALSE NEIGHBOUR: 'it returns false'. Refute it at one input. -/
def overrideMergesWrong : ChangeSpec := { name := "overrideMerges", fn := fun _ => fun
  | [d1, d2] => { results := [.lit (.bool false)], args := [d1, d2] }
  | _ => none }
def OverrideMergesWrongFalsely : Prop := overrideMergesRow.holds Tryz.pinned (OpenSpec.ofChange overrideMergesWrong)

/-- 'modcertlaw40.OverrideTwice': WHATEVER THE INPUT: true; the input reads as it did. -/
def overrideTwiceSpec : ChangeSpec := { name := "overrideTwice", fn := fun _ => fun
  | [d1, d2] => { results := [.lit (.bool true)], args := [d1, d2] }
  | _ => none }
def overrideTwiceRow : OpenClaim := { program := "ytmcbkdbfaneofaagreatdoor", sum := "78c39c9a62f1a8f32a4b48eb0299b050bedfdf96a87918b4ad706ddd63d7c272", func := "modcert/modcertlaw40.OverrideTwice", spec := "overrideTwice", inPlace := ["internal/bytealg.CountString", "internal/bytealg.IndexByteString", "internal/bytealg.IndexString", "internal/bytealg.abigen_runtime_cmpstring"], unfollowed := true, recurses := true, named := ["unicode/utf8.first", "unicode/utf8.acceptRanges", "internal/bytealg.MaxLen"], loops := true, plainKeys := false, apart := false, laid := [("unicode/utf8.acceptRanges", laid_unicode_utf8_acceptRanges), ("unicode/utf8.first", laid_unicode_utf8_first)] }
def OverrideTwiceSaid : Prop := overrideTwiceRow.holds Tryz.pinned (OpenSpec.ofChange overrideTwiceSpec)

/-- ITS FALSE NEIGHBOUR: 'it returns false'. Refute it at one input. -/
def overrideTwiceWrong : ChangeSpec := { name := "overrideTwice", fn := fun _ => fun
  | [d1, d2] => { results := [.lit (.bool false)], args := [d1, d2] }
  | _ => none }
def OverrideTwiceWrongFalsely : Prop := overrideTwiceRow.holds Tryz.pinned (OpenSpec.ofChange overrideTwiceWrong)

/-- 'modcertlaw40.OverrideUnits': WHATEVER THE INPUT: true; the input reads as it did. -/
def overrideUnitsSpec : ChangeSpec := { name := "overrideUnits", fn := fun _ => fun
  | [d] => { results := [.lit (.bool true)], args := [d] }
  | _ => none }
def overrideUnitsRow : OpenClaim := { program := "ytmcbkdbfaneofaagreatdoor", sum := "78c39c9a62f1a8f32a4b48eb0299b050bedfdf96a87918b4ad706ddd63d7c272", func := "modcert/modcertlaw40.OverrideUnits", spec := "overrideUnits", inPlace := ["internal/bytealg.CountString", "internal/bytealg.IndexByteString", "internal/bytealg.IndexString", "internal/bytealg.abigen_runtime_cmpstring"], unfollowed := true, recurses := true, named := ["unicode/utf8.first", "unicode/utf8.acceptRanges", "internal/bytealg.MaxLen"], plainKeys := false, apart := false, laid := [("unicode/utf8.acceptRanges", laid_unicode_utf8_acceptRanges), ("unicode/utf8.first", laid_unicode_utf8_first)] }
def OverrideUnitsSaid : Prop := overrideUnitsRow.holds Tryz.pinned (OpenSpec.ofChange overrideUnitsSpec)

/-- ITS FALSE NEIGHBOUR: 'it returns false'. Refute it at one input. -/
def overrideUnitsWrong : ChangeSpec := { name := "overrideUnits", fn := fun _ => fun
  | [d] => { results := [.lit (.bool false)], args := [d] }
  | _ => none }
def OverrideUnitsWrongFalsely : Prop := overrideUnitsRow.holds Tryz.pinned (OpenSpec.ofChange overrideUnitsWrong)

/-- 'modcertlaw40.OverrideInner': WHATEVER THE INPUT: true; the input reads as it did. -/
def overrideInnerSpec : ChangeSpec := { name := "overrideInner", fn := fun _ => fun
  | [d1, d2] => { results := [.lit (.bool true)], args := [d1, d2] }
  | _ => none }
def overrideInnerRow : OpenClaim := { program := "ytmcbkdbfaneofaagreatdoor", sum := "78c39c9a62f1a8f32a4b48eb0299b050bedfdf96a87918b4ad706ddd63d7c272", func := "modcert/modcertlaw40.OverrideInner", spec := "overrideInner", inPlace := ["internal/bytealg.CountString", "internal/bytealg.IndexByteString", "internal/bytealg.IndexString", "internal/bytealg.abigen_runtime_cmpstring"], unfollowed := true, recurses := true, named := ["unicode/utf8.first", "unicode/utf8.acceptRanges", "internal/bytealg.MaxLen"], plainKeys := false, apart := false, laid := [("unicode/utf8.acceptRanges", laid_unicode_utf8_acceptRanges), ("unicode/utf8.first", laid_unicode_utf8_first)] }
def OverrideInnerSaid : Prop := overrideInnerRow.holds Tryz.pinned (OpenSpec.ofChange overrideInnerSpec)

/-- ITS FALSE NEIGHBOUR: 'it returns false'. Refute it at one input. -/
def overrideInnerWrong : ChangeSpec := { name := "overrideInner", fn := fun _ => fun
  | [d1, d2] => { results := [.lit (.bool false)], args := [d1, d2] }
  | _ => none }
def OverrideInnerWrongFalsely : Prop := overrideInnerRow.holds Tryz.pinned (OpenSpec.ofChange overrideInnerWrong)

/-- 'modcertlaw40.OverrideHolds': WHATEVER THE INPUT: true; the input reads as it did. -/
def overrideHoldsSpec : ChangeSpec := { name := "overrideHolds", fn := fun _ => fun
  | [d1, d2, d3] => { results := [.lit (.bool true)], args := [d1, d2, d3] }
  | _ => none }
def overrideHoldsRow : OpenClaim := { program := "ytmcbkdbfaneofaagreatdoor", sum := "78c39c9a62f1a8f32a4b48eb0299b050bedfdf96a87918b4ad706ddd63d7c272", func := "modcert/modcertlaw40.OverrideHolds", spec := "overrideHolds", inPlace := ["internal/bytealg.CountString", "internal/bytealg.IndexByteString", "internal/bytealg.IndexString", "internal/bytealg.abigen_runtime_cmpstring"], unfollowed := true, recurses := true, named := ["unicode/utf8.first", "unicode/utf8.acceptRanges", "internal/bytealg.MaxLen"], loops := true, plainKeys := false, apart := false, laid := [("unicode/utf8.acceptRanges", laid_unicode_utf8_acceptRanges), ("unicode/utf8.first", laid_unicode_utf8_first)] }
def OverrideHoldsSaid : Prop := overrideHoldsRow.holds Tryz.pinned (OpenSpec.ofChange overrideHoldsSpec)

/-- ITS FALSE NEIGHBOUR: 'it returns false'. Refute it at one input. -/
def overrideHoldsWrong : ChangeSpec := { name := "overrideHolds", fn := fun _ => fun
  | [d1, d2, d3] => { results := [.lit (.bool false)], args := [d1, d2, d3] }
  | _ => none }
def OverrideHoldsWrongFalsely : Prop := overrideHoldsRow.holds Tryz.pinned (OpenSpec.ofChange overrideHoldsWrong)

/- THE SECOND FORM. 'bulk': how many values and letters a reading holds, each counted each time it is reached (what is shared counts as often as it is met; a slice's spare places count too). A statement '..UptoSaid' is the law's where the arguments, and the package variables that the reading takes, are together of bulk at most 1048576: NARROWER than '..Said'. Prove '..Said' where nothing that the law and all that it calls make is longer than what came in: it says more and counts as full. Else prove '..UptoSaid'. A law counts once. -/
mutual
def uptoBulk {H : Type} : DataW H → Nat
  | .lit (.string bytes) => bytes.length + 1
  | .lit _ => 1
  | .nil => 1
  | .ptr d => uptoBulk d + 1
  | .slice elems spare => uptoBulkAll elems + uptoBulkAll spare + 1
  | .agg parts => uptoBulkAll parts + 1
  | .iface _ d => uptoBulk d + 1
  | .map entries => uptoBulkEntries entries + 1
  | .held _ => 1
def uptoBulkAll {H : Type} : List (DataW H) → Nat
  | [] => 0
  | d :: r => uptoBulk d + uptoBulkAll r
def uptoBulkEntries {H : Type} : List (Lit × DataW H) → Nat
  | [] => 0
  | x :: r => uptoBulkEntry x + uptoBulkEntries r
def uptoBulkEntry {H : Type} : Lit × DataW H → Nat
  | (.string bytes, d) => bytes.length + uptoBulk d + 1
  | (_, d) => uptoBulk d + 1
 end
def uptoSmall : (H : Type) → List (DataW H) → Bool := fun _ ds => decide (uptoBulkAll ds ≤ 1048576)
def OpenSpec.upto (s : _root_.Go.ChangeSpec) : _root_.Go.OpenSpec := { _root_.Go.OpenSpec.ofChange s with cond := some uptoSmall }

/-- 'modcertlaw40.OverrideApplies', WHERE WHAT IT READS IS OF BULK AT MOST 1048576: true; the input reads as it did. -/
def overrideAppliesUptoRow : OpenClaim := { program := "ytmcbkdbfaneofaagreatdoor", sum := "78c39c9a62f1a8f32a4b48eb0299b050bedfdf96a87918b4ad706ddd63d7c272", func := "modcert/modcertlaw40.OverrideApplies", spec := "overrideApplies", inPlace := ["internal/bytealg.CountString", "internal/bytealg.IndexByteString", "internal/bytealg.IndexString", "internal/bytealg.abigen_runtime_cmpstring"], unfollowed := true, recurses := true, named := ["unicode/utf8.first", "unicode/utf8.acceptRanges", "internal/bytealg.MaxLen"], loops := true, plainKeys := false, apart := false, laid := [("unicode/utf8.acceptRanges", laid_unicode_utf8_acceptRanges), ("unicode/utf8.first", laid_unicode_utf8_first)], narrowed := true }
def OverrideAppliesUptoSaid : Prop := overrideAppliesUptoRow.holds Tryz.pinned (OpenSpec.upto overrideAppliesSpec)

/-- 'modcertlaw40.OverrideMerges', WHERE WHAT IT READS IS OF BULK AT MOST 1048576: true; the input reads as it did. -/
def overrideMergesUptoRow : OpenClaim := { program := "ytmcbkdbfaneofaagreatdoor", sum := "78c39c9a62f1a8f32a4b48eb0299b050bedfdf96a87918b4ad706ddd63d7c272", func := "modcert/modcertlaw40.OverrideMerges", spec := "overrideMerges", inPlace := ["internal/bytealg.CountString", "internal/bytealg.IndexByteString", "internal/bytealg.IndexString", "internal/bytealg.abigen_runtime_cmpstring"], unfollowed := true, recurses := true, named := ["unicode/utf8.first", "unicode/utf8.acceptRanges", "internal/bytealg.MaxLen"], plainKeys := false, apart := false, laid := [("unicode/utf8.acceptRanges", laid_unicode_utf8_acceptRanges), ("unicode/utf8.first", laid_unicode_utf8_first)], narrowed := true }
def OverrideMergesUptoSaid : Prop := overrideMergesUptoRow.holds Tryz.pinned (OpenSpec.upto overrideMergesSpec)

/-- 'modcertlaw40.OverrideTwice', WHERE WHAT IT READS IS OF BULK AT MOST 1048576: true; the input reads as it did. -/
def overrideTwiceUptoRow : OpenClaim := { program := "ytmcbkdbfaneofaagreatdoor", sum := "78c39c9a62f1a8f32a4b48eb0299b050bedfdf96a87918b4ad706ddd63d7c272", func := "modcert/modcertlaw40.OverrideTwice", spec := "overrideTwice", inPlace := ["internal/bytealg.CountString", "internal/bytealg.IndexByteString", "internal/bytealg.IndexString", "internal/bytealg.abigen_runtime_cmpstring"], unfollowed := true, recurses := true, named := ["unicode/utf8.first", "unicode/utf8.acceptRanges", "internal/bytealg.MaxLen"], loops := true, plainKeys := false, apart := false, laid := [("unicode/utf8.acceptRanges", laid_unicode_utf8_acceptRanges), ("unicode/utf8.first", laid_unicode_utf8_first)], narrowed := true }
def OverrideTwiceUptoSaid : Prop := overrideTwiceUptoRow.holds Tryz.pinned (OpenSpec.upto overrideTwiceSpec)

/-- 'modcertlaw40.OverrideUnits', WHERE WHAT IT READS IS OF BULK AT MOST 1048576: true; the input reads as it did. -/
def overrideUnitsUptoRow : OpenClaim := { program := "ytmcbkdbfaneofaagreatdoor", sum := "78c39c9a62f1a8f32a4b48eb0299b050bedfdf96a87918b4ad706ddd63d7c272", func := "modcert/modcertlaw40.OverrideUnits", spec := "overrideUnits", inPlace := ["internal/bytealg.CountString", "internal/bytealg.IndexByteString", "internal/bytealg.IndexString", "internal/bytealg.abigen_runtime_cmpstring"], unfollowed := true, recurses := true, named := ["unicode/utf8.first", "unicode/utf8.acceptRanges", "internal/bytealg.MaxLen"], plainKeys := false, apart := false, laid := [("unicode/utf8.acceptRanges", laid_unicode_utf8_acceptRanges), ("unicode/utf8.first", laid_unicode_utf8_first)], narrowed := true }
def OverrideUnitsUptoSaid : Prop := overrideUnitsUptoRow.holds Tryz.pinned (OpenSpec.upto overrideUnitsSpec)

/-- 'modcertlaw40.OverrideInner', WHERE WHAT IT READS IS OF BULK AT MOST 1048576: true; the input reads as it did. -/
def overrideInnerUptoRow : OpenClaim := { program := "ytmcbkdbfaneofaagreatdoor", sum := "78c39c9a62f1a8f32a4b48eb0299b050bedfdf96a87918b4ad706ddd63d7c272", func := "modcert/modcertlaw40.OverrideInner", spec := "overrideInner", inPlace := ["internal/bytealg.CountString", "internal/bytealg.IndexByteString", "internal/bytealg.IndexString", "internal/bytealg.abigen_runtime_cmpstring"], unfollowed := true, recurses := true, named := ["unicode/utf8.first", "unicode/utf8.acceptRanges", "internal/bytealg.MaxLen"], plainKeys := false, apart := false, laid := [("unicode/utf8.acceptRanges", laid_unicode_utf8_acceptRanges), ("unicode/utf8.first", laid_unicode_utf8_first)], narrowed := true }
def OverrideInnerUptoSaid : Prop := overrideInnerUptoRow.holds Tryz.pinned (OpenSpec.upto overrideInnerSpec)

/-- 'modcertlaw40.OverrideHolds', WHERE WHAT IT READS IS OF BULK AT MOST 1048576: true; the input reads as it did. -/
def overrideHoldsUptoRow : OpenClaim := { program := "ytmcbkdbfaneofaagreatdoor", sum := "78c39c9a62f1a8f32a4b48eb0299b050bedfdf96a87918b4ad706ddd63d7c272", func := "modcert/modcertlaw40.OverrideHolds", spec := "overrideHolds", inPlace := ["internal/bytealg.CountString", "internal/bytealg.IndexByteString", "internal/bytealg.IndexString", "internal/bytealg.abigen_runtime_cmpstring"], unfollowed := true, recurses := true, named := ["unicode/utf8.first", "unicode/utf8.acceptRanges", "internal/bytealg.MaxLen"], loops := true, plainKeys := false, apart := false, laid := [("unicode/utf8.acceptRanges", laid_unicode_utf8_acceptRanges), ("unicode/utf8.first", laid_unicode_utf8_first)], narrowed := true }
def OverrideHoldsUptoSaid : Prop := overrideHoldsUptoRow.holds Tryz.pinned (OpenSpec.upto overrideHoldsSpec)

end Rows
end Go.Proofs.YtmcbkdbfaneofaaGreatDoor
