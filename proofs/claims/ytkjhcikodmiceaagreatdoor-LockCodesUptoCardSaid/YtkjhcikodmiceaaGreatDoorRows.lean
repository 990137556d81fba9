/-
  NARROWER THAN 'FOR EVERY INPUT', by the rows' own cells (each row's printed sentence says how): LockMakes: loops, laid · LockUnique: loops, laid · LockTampers: loops, laid · LockVerifies: loops, laid · LockReturns: laid · LockCodes: laid.
  DERIVED. THE GIVEN ROWS OF THIS SEAT. 6 by the template 'for every input the law returns true; each argument reads behind the call as it read before'; 0 by the template 'total and deterministic' (their statements: YtkjhcikodmiceaaGreatDoorTotals.lean).
  GIVEN WITH THE SEED: the statements are not yours to turn. If you find one false, say at which input.
  Laid BY PROGRAM, IN A SANDBOX (cutbox-rows.mjs): the forced cells as the released guide's own fill.sh prints them over the translation 628d8b9e567c0564… (all of the seat's roots in one cut). By AI agents, Wed Nov 11 2026. No macro, syntax, notation, axiom, sorry.
-/
import Derived.Test.YtkjhcikodmiceaaGreatDoorChecked
import GoSem.PinnedTables
import GoSem.Claim
import GoSem.ClaimJoined
import GoSem.ClaimMapViews
import Derived.JoinedTies
import Derived.KernelRfl
namespace Go.Proofs.YtkjhcikodmiceaaGreatDoor
/- THE CELL 'sum', in the pinned program and in every row, IS THE sha256 OF THE DUMP (.gsa) THAT YtkjhcikodmiceaaGreatDoorProg.lean LOADS. Nothing in Lean hashes anything: it is a label: what it is worth is what the hold of that sum in a sandbox is worth. -/
noncomputable def Tryz.pinned : Pinned := { name := "ytkjhcikodmiceaagreatdoor", sum := "628d8b9e567c0564c2646f478213eda1bb664b352e7c6be295e87b519a7107bf", checked := Tryz.checked }
namespace Rows
def none {H : Type} : Left H := { results := [], args := [] }

/- WHAT THE LISTED PACKAGE-LEVEL VARIABLES READ AS WHEN THE CALL BEGINS. Each datum BY PROGRAM (the guide's laid-datum.mjs) off the statement by which the dump's own 'gosem.cut.vars' lays the variable. In a bare row this is a premise. The card (YtkjhcikodmiceaaGreatDoorCards.lean) ties it to the program's text. -/
def laid_unicode_utf8_acceptRanges {H : Type} : DataW H := .agg [.agg [.lit (.int .u8 128), .lit (.int .u8 191)], .agg [.lit (.int .u8 160), .lit (.int .u8 191)], .agg [.lit (.int .u8 128), .lit (.int .u8 159)], .agg [.lit (.int .u8 144), .lit (.int .u8 191)], .agg [.lit (.int .u8 128), .lit (.int .u8 143)], .agg [.lit (.int .u8 0), .lit (.int .u8 0)], .agg [.lit (.int .u8 0), .lit (.int .u8 0)], .agg [.lit (.int .u8 0), .lit (.int .u8 0)], .agg [.lit (.int .u8 0), .lit (.int .u8 0)], .agg [.lit (.int .u8 0), .lit (.int .u8 0)], .agg [.lit (.int .u8 0), .lit (.int .u8 0)], .agg [.lit (.int .u8 0), .lit (.int .u8 0)], .agg [.lit (.int .u8 0), .lit (.int .u8 0)], .agg [.lit (.int .u8 0), .lit (.int .u8 0)], .agg [.lit (.int .u8 0), .lit (.int .u8 0)], .agg [.lit (.int .u8 0), .lit (.int .u8 0)]]
/-- One of Go's own tables, pinned by name: the form's constant. -/
def laid_unicode_utf8_first : DataW Unit := Go.Pinned.utf8First

/-- 'modcertlaw39.LockMakes': WHATEVER THE INPUT: true; the input reads as it did. -/
def lockMakesSpec : ChangeSpec := { name := "lockMakes", fn := fun _ => fun
  | [d1, d2] => { results := [.lit (.bool true)], args := [d1, d2] }
  | _ => none }
def lockMakesRow : OpenClaim := { program := "ytkjhcikodmiceaagreatdoor", sum := "628d8b9e567c0564c2646f478213eda1bb664b352e7c6be295e87b519a7107bf", func := "modcert/modcertlaw39.LockMakes", spec := "lockMakes", inPlace := ["internal/bytealg.CountString", "internal/bytealg.IndexByteString", "internal/bytealg.IndexString", "internal/bytealg.abigen_runtime_cmpstring"], unfollowed := true, recurses := true, named := ["unicode/utf8.first", "unicode/utf8.acceptRanges", "internal/bytealg.MaxLen"], loops := true, plainKeys := false, apart := false, laid := [("unicode/utf8.acceptRanges", laid_unicode_utf8_acceptRanges), ("unicode/utf8.first", laid_unicode_utf8_first)] }
def LockMakesSaid : Prop := lockMakesRow.holds Tryz.pinned (OpenSpec.ofChange lockMakesSpec)

/-- ITS FALSE NEIGHBOUR: 'it returns false'. Refute it at one input. -/
def lockMakesWrong : ChangeSpec := { name := "lockMakes", fn := fun _ => fun
  | [d1, d2] => { results := [.lit (.bool false)], args := [d1, d2] }
  | _ => none }
def LockMakesWrongFalsely : Prop := lockMakesRow.holds Tryz.pinned (OpenSpec.ofChange lockMakesWrong)

/-- 'modcertlaw39.LockUnique': WHATEVER THE INPUT: true; the input reads as it did. -/
def lockUniqueSpec : ChangeSpec := { name := "lockUnique", fn := fun _ => fun
  | [d1, d2] => { results := [.lit (.bool true)], args := [d1, d2] }
  | _ => none }
def lockUniqueRow : OpenClaim := { program := "ytkjhcikodmiceaagreatdoor", sum := "628d8b9e567c0564c2646f478213eda1bb664b352e7c6be295e87b519a7107bf", func := "modcert/modcertlaw39.LockUnique", spec := "lockUnique", inPlace := ["internal/bytealg.CountString", "internal/bytealg.IndexByteString", "internal/bytealg.IndexString", "internal/bytealg.abigen_runtime_cmpstring"], unfollowed := true, recurses := true, named := ["unicode/utf8.first", "unicode/utf8.acceptRanges", "internal/bytealg.MaxLen"], loops := true, plainKeys := false, apart := false, laid := [("unicode/utf8.acceptRanges", laid_unicode_utf8_acceptRanges), ("unicode/utf8.first", laid_unicode_utf8_first)] }
def LockUniqueSaid : Prop := lockUniqueRow.holds Tryz.pinned (OpenSpec.ofChange lockUniqueSpec)

/-- ITS FALSE NEIGHBOUR: 'it returns false'. Refute it at one input. -/
def lockUniqueWrong : ChangeSpec := { name := "lockUnique", fn := fun _ => fun
  | [d1, d2] => { results := [.lit (.bool false)], args := [d1, d2] }
  | _ => none }
def LockUniqueWrongFalsely : Prop := lockUniqueRow.holds Tryz.pinned (OpenSpec.ofChange lockUniqueWrong)

/-- 'modcertlaw39.LockTampers': WHATEVER THE INPUT: true; the input reads as it did. -/
def lockTampersSpec : ChangeSpec := { name := "lockTampers", fn := fun _ => fun
  | [d1, d2, d3, d4, d5, d6] => { results := [.lit (.bool true)], args := [d1, d2, d3, d4, d5, d6] }
  | _ => none }
def lockTampersRow : OpenClaim := { program := "ytkjhcikodmiceaagreatdoor", sum := "628d8b9e567c0564c2646f478213eda1bb664b352e7c6be295e87b519a7107bf", func := "modcert/modcertlaw39.LockTampers", spec := "lockTampers", inPlace := ["internal/bytealg.CountString", "internal/bytealg.IndexByteString", "internal/bytealg.IndexString", "internal/bytealg.abigen_runtime_cmpstring"], unfollowed := true, recurses := true, named := ["unicode/utf8.first", "unicode/utf8.acceptRanges", "internal/bytealg.MaxLen"], loops := true, plainKeys := false, apart := false, laid := [("unicode/utf8.acceptRanges", laid_unicode_utf8_acceptRanges), ("unicode/utf8.first", laid_unicode_utf8_first)] }
def LockTampersSaid : Prop := lockTampersRow.holds Tryz.pinned (OpenSpec.ofChange lockTampersSpec)

/-- ITS FALSE NEIGHBOUR: 'it returns false'. Refute it at one input. -/
def lockTampersWrong : ChangeSpec := { name := "lockTampers", fn := fun _ => fun
  | [d1, d2, d3, d4, d5, d6] => { results := [.lit (.bool false)], args := [d1, d2, d3, d4, d5, d6] }
  | _ => none }
def LockTampersWrongFalsely : Prop := lockTampersRow.holds Tryz.pinned (OpenSpec.ofChange lockTampersWrong)

/-- 'modcertlaw39.LockVerifies': WHATEVER THE INPUT: true; the input reads as it did. -/
def lockVerifiesSpec : ChangeSpec := { name := "lockVerifies", fn := fun _ => fun
  | [d1, d2] => { results := [.lit (.bool true)], args := [d1, d2] }
  | _ => none }
def lockVerifiesRow : OpenClaim := { program := "ytkjhcikodmiceaagreatdoor", sum := "628d8b9e567c0564c2646f478213eda1bb664b352e7c6be295e87b519a7107bf", func := "modcert/modcertlaw39.LockVerifies", spec := "lockVerifies", inPlace := ["internal/bytealg.CountString", "internal/bytealg.IndexByteString", "internal/bytealg.IndexString", "internal/bytealg.abigen_runtime_cmpstring"], unfollowed := true, recurses := true, named := ["unicode/utf8.first", "unicode/utf8.acceptRanges", "internal/bytealg.MaxLen"], loops := true, plainKeys := false, apart := false, laid := [("unicode/utf8.acceptRanges", laid_unicode_utf8_acceptRanges), ("unicode/utf8.first", laid_unicode_utf8_first)] }
def LockVerifiesSaid : Prop := lockVerifiesRow.holds Tryz.pinned (OpenSpec.ofChange lockVerifiesSpec)

/-- ITS FALSE NEIGHBOUR: 'it returns false'. Refute it at one input. -/
def lockVerifiesWrong : ChangeSpec := { name := "lockVerifies", fn := fun _ => fun
  | [d1, d2] => { results := [.lit (.bool false)], args := [d1, d2] }
  | _ => none }
def LockVerifiesWrongFalsely : Prop := lockVerifiesRow.holds Tryz.pinned (OpenSpec.ofChange lockVerifiesWrong)

/-- 'modcertlaw39.LockReturns': WHATEVER THE INPUT: true; the input reads as it did. -/
def lockReturnsSpec : ChangeSpec := { name := "lockReturns", fn := fun _ => fun
  | [d1, d2] => { results := [.lit (.bool true)], args := [d1, d2] }
  | _ => none }
def lockReturnsRow : OpenClaim := { program := "ytkjhcikodmiceaagreatdoor", sum := "628d8b9e567c0564c2646f478213eda1bb664b352e7c6be295e87b519a7107bf", func := "modcert/modcertlaw39.LockReturns", spec := "lockReturns", inPlace := ["internal/bytealg.CountString", "internal/bytealg.IndexByteString", "internal/bytealg.IndexString", "internal/bytealg.abigen_runtime_cmpstring"], unfollowed := true, recurses := true, named := ["unicode/utf8.first", "unicode/utf8.acceptRanges", "internal/bytealg.MaxLen"], plainKeys := false, apart := false, laid := [("unicode/utf8.acceptRanges", laid_unicode_utf8_acceptRanges), ("unicode/utf8.first", laid_unicode_utf8_first)] }
def LockReturnsSaid : Prop := lockReturnsRow.holds Tryz.pinned (OpenSpec.ofChange lockReturnsSpec)

/-- ITS FALSE NEIGHBOUR: 'it returns false'. Refute it at one input. -/
def lockReturnsWrong : ChangeSpec := { name := "lockReturns", fn := fun _ => fun
  | [d1, d2] => { results := [.lit (.bool false)], args := [d1, d2] }
  | _ => none }
def LockReturnsWrongFalsely : Prop := lockReturnsRow.holds Tryz.pinned (OpenSpec.ofChange lockReturnsWrong)

/-- 'modcertlaw39.LockCodes': WHATEVER THE INPUT: true; the input reads as it did. -/
def lockCodesSpec : ChangeSpec := { name := "lockCodes", fn := fun _ => fun
  | [d1, d2] => { results := [.lit (.bool true)], args := [d1, d2] }
  | _ => none }
def lockCodesRow : OpenClaim := { program := "ytkjhcikodmiceaagreatdoor", sum := "628d8b9e567c0564c2646f478213eda1bb664b352e7c6be295e87b519a7107bf", func := "modcert/modcertlaw39.LockCodes", spec := "lockCodes", inPlace := ["internal/bytealg.CountString", "internal/bytealg.IndexByteString", "internal/bytealg.IndexString", "internal/bytealg.abigen_runtime_cmpstring", "internal/abi.NoEscape", "internal/bytealg.MakeNoZero"], unfollowed := true, recurses := true, named := ["unicode/utf8.first", "unicode/utf8.acceptRanges", "internal/bytealg.MaxLen"], plainKeys := false, apart := false, laid := [("unicode/utf8.acceptRanges", laid_unicode_utf8_acceptRanges), ("unicode/utf8.first", laid_unicode_utf8_first)] }
def LockCodesSaid : Prop := lockCodesRow.holds Tryz.pinned (OpenSpec.ofChange lockCodesSpec)

/-- ITS FALSE NEIGHBOUR: 'it returns false'. Refute it at one input. -/
def lockCodesWrong : ChangeSpec := { name := "lockCodes", fn := fun _ => fun
  | [d1, d2] => { results := [.lit (.bool false)], args := [d1, d2] }
  | _ => none }
def LockCodesWrongFalsely : Prop := lockCodesRow.holds Tryz.pinned (OpenSpec.ofChange lockCodesWrong)

/- THE SECOND FORM. 'bulk': how many values and letters a reading holds, each counted each time it is reached (what is shared counts as often as it is met; a slice's spare places count too). A statement '..UptoSaid' is the law's where the arguments, and the package variables that the reading takes, are together of bulk at most 1048576: NARROWER than '..Said'. Prove '..Said' where nothing that the law and all that it calls make is longer than what came in: it says more and counts as full. Else prove '..UptoSaid'. A law counts once. -/
mutual
def uptoBulk {H : Type} : DataW H → Nat
  | .lit (.string bytes) => bytes.length + 1
  | .lit _ => 1
  | .nil => 1
  | .ptr d => uptoBulk d + 1
  | .slice elems spare => uptoBulkAll elems + uptoBulkAll spare + 1
  | .agg parts => uptoBulkAll parts + 1
  | .iface _ d => uptoBulk d + 1
  | .map entries => uptoBulkEntries entries + 1
  | .held _ => 1
def uptoBulkAll {H : Type} : List (DataW H) → Nat
  | [] => 0
  | d :: r => uptoBulk d + uptoBulkAll r
def uptoBulkEntries {H : Type} : List (Lit × DataW H) → Nat
  | [] => 0
  | x :: r => uptoBulkEntry x + uptoBulkEntries r
def uptoBulkEntry {H : Type} : Lit × DataW H → Nat
  | (.string bytes, d) => bytes.length + uptoBulk d + 1
  | (_, d) => uptoBulk d + 1
 end
def uptoSmall : (H : Type) → List (DataW H) → Bool := fun _ ds => decide (uptoBulkAll ds ≤ 1048576)
def OpenSpec.upto (s : _root_.Go.ChangeSpec) : _root_.Go.OpenSpec := { _root_.Go.OpenSpec.ofChange s with cond := some uptoSmall }

/-- 'modcertlaw39.LockMakes', WHERE WHAT IT READS IS OF BULK AT MOST 1048576: true; the input reads as it did. -/
def lockMakesUptoRow : OpenClaim := { program := "ytkjhcikodmiceaagreatdoor", sum := "628d8b9e567c0564c2646f478213eda1bb664b352e7c6be295e87b519a7107bf", func := "modcert/modcertlaw39.LockMakes", spec := "lockMakes", inPlace := ["internal/bytealg.CountString", "internal/bytealg.IndexByteString", "internal/bytealg.IndexString", "internal/bytealg.abigen_runtime_cmpstring"], unfollowed := true, recurses := true, named := ["unicode/utf8.first", "unicode/utf8.acceptRanges", "internal/bytealg.MaxLen"], loops := true, plainKeys := false, apart := false, laid := [("unicode/utf8.acceptRanges", laid_unicode_utf8_acceptRanges), ("unicode/utf8.first", laid_unicode_utf8_first)], narrowed := true }
def LockMakesUptoSaid : Prop := lockMakesUptoRow.holds Tryz.pinned (OpenSpec.upto lockMakesSpec)

/-- 'modcertlaw39.LockUnique', WHERE WHAT IT READS IS OF BULK AT MOST 1048576: true; the input reads as it did. -/
def lockUniqueUptoRow : OpenClaim := { program := "ytkjhcikodmiceaagreatdoor", sum := "628d8b9e567c0564c2646f478213eda1bb664b352e7c6be295e87b519a7107bf", func := "modcert/modcertlaw39.LockUnique", spec := "lockUnique", inPlace := ["internal/bytealg.CountString", "internal/bytealg.IndexByteString", "internal/bytealg.IndexString", "internal/bytealg.abigen_runtime_cmpstring"], unfollowed := true, recurses := true, named := ["unicode/utf8.first", "unicode/utf8.acceptRanges", "internal/bytealg.MaxLen"], loops := true, plainKeys := false, apart := false, laid := [("unicode/utf8.acceptRanges", laid_unicode_utf8_acceptRanges), ("unicode/utf8.first", laid_unicode_utf8_first)], narrowed := true }
def LockUniqueUptoSaid : Prop := lockUniqueUptoRow.holds Tryz.pinned (OpenSpec.upto lockUniqueSpec)

/-- 'modcertlaw39.LockTampers', WHERE WHAT IT READS IS OF BULK AT MOST 1048576: true; the input reads as it did. -/
def lockTampersUptoRow : OpenClaim := { program := "ytkjhcikodmiceaagreatdoor", sum := "628d8b9e567c0564c2646f478213eda1bb664b352e7c6be295e87b519a7107bf", func := "modcert/modcertlaw39.LockTampers", spec := "lockTampers", inPlace := ["internal/bytealg.CountString", "internal/bytealg.IndexByteString", "internal/bytealg.IndexString", "internal/bytealg.abigen_runtime_cmpstring"], unfollowed := true, recurses := true, named := ["unicode/utf8.first", "unicode/utf8.acceptRanges", "internal/bytealg.MaxLen"], loops := true, plainKeys := false, apart := false, laid := [("unicode/utf8.acceptRanges", laid_unicode_utf8_acceptRanges), ("unicode/utf8.first", laid_unicode_utf8_first)], narrowed := true }
def LockTampersUptoSaid : Prop := lockTampersUptoRow.holds Tryz.pinned (OpenSpec.upto lockTampersSpec)

/-- 'modcertlaw39.LockVerifies', WHERE WHAT IT READS IS OF BULK AT MOST 1048576: true; the input reads as it did. -/
def lockVerifiesUptoRow : OpenClaim := { program := "ytkjhcikodmiceaagreatdoor", sum := "628d8b9e567c0564c2646f478213eda1bb664b352e7c6be295e87b519a7107bf", func := "modcert/modcertlaw39.LockVerifies", spec := "lockVerifies", inPlace := ["internal/bytealg.CountString", "internal/bytealg.IndexByteString", "internal/bytealg.IndexString", "internal/bytealg.abigen_runtime_cmpstring"], unfollowed := true, recurses := true, named := ["unicode/utf8.first", "unicode/utf8.acceptRanges", "internal/bytealg.MaxLen"], loops := true, plainKeys := false, apart := false, laid := [("unicode/utf8.acceptRanges", laid_unicode_utf8_acceptRanges), ("unicode/utf8.first", laid_unicode_utf8_first)], narrowed := true }
def LockVerifiesUptoSaid : Prop := lockVerifiesUptoRow.holds Tryz.pinned (OpenSpec.upto lockVerifiesSpec)

/-- 'modcertlaw39.LockReturns', WHERE WHAT IT READS IS OF BULK AT MOST 1048576: true; the input reads as it did. -/
def lockReturnsUptoRow : OpenClaim := { program := "ytkjhcikodmiceaagreatdoor", sum := "628d8b9e567c0564c2646f478213eda1bb664b352e7c6be295e87b519a7107bf", func := "modcert/modcertlaw39.LockReturns", spec := "lockReturns", inPlace := ["internal/bytealg.CountString", "internal/bytealg.IndexByteString", "internal/bytealg.IndexString", "internal/bytealg.abigen_runtime_cmpstring"], unfollowed := true, recurses := true, named := ["unicode/utf8.first", "unicode/utf8.acceptRanges", "internal/bytealg.MaxLen"], plainKeys := false, apart := false, laid := [("unicode/utf8.acceptRanges", laid_unicode_utf8_acceptRanges), ("unicode/utf8.first", laid_unicode_utf8_first)], narrowed := true }
def LockReturnsUptoSaid : Prop := lockReturnsUptoRow.holds Tryz.pinned (OpenSpec.upto lockReturnsSpec)

/-- 'modcertlaw39.LockCodes', WHERE WHAT IT READS IS OF BULK AT MOST 1048576: true; the input reads as it did. -/
def lockCodesUptoRow : OpenClaim := { program := "ytkjhcikodmiceaagreatdoor", sum := "628d8b9e567c0564c2646f478213eda1bb664b352e7c6be295e87b519a7107bf", func := "modcert/modcertlaw39.LockCodes", spec := "lockCodes", inPlace := ["internal/bytealg.CountString", "internal/bytealg.IndexByteString", "internal/bytealg.IndexString", "internal/bytealg.abigen_runtime_cmpstring", "internal/abi.NoEscape", "internal/bytealg.MakeNoZero"], unfollowed := true, recurses := true, named := ["unicode/utf8.first", "unicode/utf8.acceptRanges", "internal/bytealg.MaxLen"], plainKeys := false, apart := false, laid := [("unicode/utf8.acceptRanges", laid_unicode_utf8_acceptRanges), ("unicode/utf8.first", laid_unicode_utf8_first)], narrowed := true }
def LockCodesUptoSaid : Prop := lockCodesUptoRow.holds Tryz.pinned (OpenSpec.upto lockCodesSpec)

end Rows
end Go.Proofs.YtkjhcikodmiceaaGreatDoor
