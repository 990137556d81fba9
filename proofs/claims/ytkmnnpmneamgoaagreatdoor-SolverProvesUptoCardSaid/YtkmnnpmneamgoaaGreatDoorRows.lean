/-
  NARROWER THAN 'FOR EVERY INPUT', by the rows' own cells (each row's printed sentence says how): SolverLists: loops, laid · SolverCores: loops, laid · SolverMinimal: loops, laid · SolverOrder: loops, laid · SolverProves: loops, laid.
  DERIVED. THE GIVEN ROWS OF THIS SEAT. 5 by the template 'for every input the law returns true; each argument reads behind the call as it read before'; 0 by the template 'total and deterministic' (their statements: YtkmnnpmneamgoaaGreatDoorTotals.lean).
  GIVEN WITH THE SEED: the statements are not yours to turn. If you find one false, say at which input.
  Laid BY PROGRAM, IN A SANDBOX (cutbox-rows.mjs): the forced cells as the released guide's own fill.sh prints them over the translation ce505e6a68cbf8df… (all of the seat's roots in one cut). By AI agents, Wed Nov 11 2026. No macro, syntax, notation, axiom, sorry.
-/
import Derived.Test.YtkmnnpmneamgoaaGreatDoorChecked
import GoSem.PinnedTables
import GoSem.Claim
import GoSem.ClaimJoined
import GoSem.ClaimMapViews
import Derived.JoinedTies
import Derived.KernelRfl
namespace Go.Proofs.YtkmnnpmneamgoaaGreatDoor
/- THE CELL 'sum', in the pinned program and in every row, IS THE sha256 OF THE DUMP (.gsa) THAT YtkmnnpmneamgoaaGreatDoorProg.lean LOADS. Nothing in Lean hashes anything: it is a label: what it is worth is what the hold of that sum in a sandbox is worth. -/
noncomputable def Tryz.pinned : Pinned := { name := "ytkmnnpmneamgoaagreatdoor", sum := "ce505e6a68cbf8df8fec4f1c844c117be3e6e483255e52d58b16c14a02ffbcfa", checked := Tryz.checked }
namespace Rows
def none {H : Type} : Left H := { results := [], args := [] }

/- WHAT THE LISTED PACKAGE-LEVEL VARIABLES READ AS WHEN THE CALL BEGINS. Each datum BY PROGRAM (the guide's laid-datum.mjs) off the statement by which the dump's own 'gosem.cut.vars' lays the variable. In a bare row this is a premise. The card (YtkmnnpmneamgoaaGreatDoorCards.lean) ties it to the program's text. -/
def laid_unicode_utf8_acceptRanges {H : Type} : DataW H := .agg [.agg [.lit (.int .u8 128), .lit (.int .u8 191)], .agg [.lit (.int .u8 160), .lit (.int .u8 191)], .agg [.lit (.int .u8 128), .lit (.int .u8 159)], .agg [.lit (.int .u8 144), .lit (.int .u8 191)], .agg [.lit (.int .u8 128), .lit (.int .u8 143)], .agg [.lit (.int .u8 0), .lit (.int .u8 0)], .agg [.lit (.int .u8 0), .lit (.int .u8 0)], .agg [.lit (.int .u8 0), .lit (.int .u8 0)], .agg [.lit (.int .u8 0), .lit (.int .u8 0)], .agg [.lit (.int .u8 0), .lit (.int .u8 0)], .agg [.lit (.int .u8 0), .lit (.int .u8 0)], .agg [.lit (.int .u8 0), .lit (.int .u8 0)], .agg [.lit (.int .u8 0), .lit (.int .u8 0)], .agg [.lit (.int .u8 0), .lit (.int .u8 0)], .agg [.lit (.int .u8 0), .lit (.int .u8 0)], .agg [.lit (.int .u8 0), .lit (.int .u8 0)]]
/-- One of Go's own tables, pinned by name: the form's constant. -/
def laid_unicode_utf8_first : DataW Unit := Go.Pinned.utf8First

/-- 'modcertlaw37.SolverLists': WHATEVER THE INPUT: true; the input reads as it did. -/
def solverListsSpec : ChangeSpec := { name := "solverLists", fn := fun _ => fun
  | [d1, d2, d3] => { results := [.lit (.bool true)], args := [d1, d2, d3] }
  | _ => none }
def solverListsRow : OpenClaim := { program := "ytkmnnpmneamgoaagreatdoor", sum := "ce505e6a68cbf8df8fec4f1c844c117be3e6e483255e52d58b16c14a02ffbcfa", func := "modcert/modcertlaw37.SolverLists", spec := "solverLists", inPlace := ["internal/bytealg.CountString", "internal/bytealg.IndexByteString", "internal/bytealg.IndexString", "internal/bytealg.abigen_runtime_cmpstring"], unfollowed := true, recurses := true, named := ["unicode/utf8.first", "unicode/utf8.acceptRanges", "internal/bytealg.MaxLen"], loops := true, plainKeys := false, apart := false, laid := [("unicode/utf8.acceptRanges", laid_unicode_utf8_acceptRanges), ("unicode/utf8.first", laid_unicode_utf8_first)] }
def SolverListsSaid : Prop := solverListsRow.holds Tryz.pinned (OpenSpec.ofChange solverListsSpec)

/-- ITS FALSE NEIGHBOUR: 'it returns false'. Refute it at one input. -/
def solverListsWrong : ChangeSpec := { name := "solverLists", fn := fun _ => fun
  | [d1, d2, d3] => { results := [.lit (.bool false)], args := [d1, d2, d3] }
  | _ => none }
def SolverListsWrongFalsely : Prop := solverListsRow.holds Tryz.pinned (OpenSpec.ofChange solverListsWrong)

/-- 'modcertlaw37.SolverCores': WHATEVER THE INPUT: true; the input reads as it did. -/
def solverCoresSpec : ChangeSpec := { name := "solverCores", fn := fun _ => fun
  | [d1, d2] => { results := [.lit (.bool true)], args := [d1, d2] }
  | _ => none }
def solverCoresRow : OpenClaim := { program := "ytkmnnpmneamgoaagreatdoor", sum := "ce505e6a68cbf8df8fec4f1c844c117be3e6e483255e52d58b16c14a02ffbcfa", func := "modcert/modcertlaw37.SolverCores", spec := "solverCores", inPlace := ["internal/bytealg.CountString", "internal/bytealg.IndexByteString", "internal/bytealg.IndexString", "internal/bytealg.abigen_runtime_cmpstring"], unfollowed := true, recurses := true, named := ["unicode/utf8.first", "unicode/utf8.acceptRanges", "internal/bytealg.MaxLen"], loops := true, plainKeys := false, apart := false, laid := [("unicode/utf8.acceptRanges", laid_unicode_utf8_acceptRanges), ("unicode/utf8.first", laid_unicode_utf8_first)] }
def SolverCoresSaid : Prop := solverCoresRow.holds Tryz.pinned (OpenSpec.ofChange solverCoresSpec)

/-- ITS FALSE NEIGHBOUR: 'it returns false'. Refute it at one input. -/
def solverCoresWrong : ChangeSpec := { name := "solverCores", fn := fun _ => fun
  | [d1, d2] => { results := [.lit (.bool false)], args := [d1, d2] }
  | _ => none }
def SolverCoresWrongFalsely : Prop := solverCoresRow.holds Tryz.pinned (OpenSpec.ofChange solverCoresWrong)

/-- 'modcertlaw37.SolverMinimal': WHATEVER THE INPUT: true; the input reads as it did. -/
def solverMinimalSpec : ChangeSpec := { name := "solverMinimal", fn := fun _ => fun
  | [d1, d2] => { results := [.lit (.bool true)], args := [d1, d2] }
  | _ => none }
def solverMinimalRow : OpenClaim := { program := "ytkmnnpmneamgoaagreatdoor", sum := "ce505e6a68cbf8df8fec4f1c844c117be3e6e483255e52d58b16c14a02ffbcfa", func := "modcert/modcertlaw37.SolverMinimal", spec := "solverMinimal", inPlace := ["internal/bytealg.CountString", "internal/bytealg.IndexByteString", "internal/bytealg.IndexString", "internal/bytealg.abigen_runtime_cmpstring"], unfollowed := true, recurses := true, named := ["unicode/utf8.first", "unicode/utf8.acceptRanges", "internal/bytealg.MaxLen"], loops := true, plainKeys := false, apart := false, laid := [("unicode/utf8.acceptRanges", laid_unicode_utf8_acceptRanges), ("unicode/utf8.first", laid_unicode_utf8_first)] }
def SolverMinimalSaid : Prop := solverMinimalRow.holds Tryz.pinned (OpenSpec.ofChange solverMinimalSpec)

/-- ITS FALSE NEIGHBOUR: 'it returns false'. Refute it at one input. -/
def solverMinimalWrong : ChangeSpec := { name := "solverMinimal", fn := fun _ => fun
  | [d1, d2] => { results := [.lit (.bool false)], args := [d1, d2] }
  | _ => none }
def SolverMinimalWrongFalsely : Prop := solverMinimalRow.holds Tryz.pinned (OpenSpec.ofChange solverMinimalWrong)

/-- 'modcertlaw37.SolverOrder': WHATEVER THE INPUT: true; the input reads as it did. -/
def solverOrderSpec : ChangeSpec := { name := "solverOrder", fn := fun _ => fun
  | [d1, d2] => { results := [.lit (.bool true)], args := [d1, d2] }
  | _ => none }
def solverOrderRow : OpenClaim := { program := "ytkmnnpmneamgoaagreatdoor", sum := "ce505e6a68cbf8df8fec4f1c844c117be3e6e483255e52d58b16c14a02ffbcfa", func := "modcert/modcertlaw37.SolverOrder", spec := "solverOrder", inPlace := ["internal/bytealg.CountString", "internal/bytealg.IndexByteString", "internal/bytealg.IndexString", "internal/bytealg.abigen_runtime_cmpstring"], unfollowed := true, recurses := true, named := ["unicode/utf8.first", "unicode/utf8.acceptRanges", "internal/bytealg.MaxLen"], loops := true, plainKeys := false, apart := false, laid := [("unicode/utf8.acceptRanges", laid_unicode_utf8_acceptRanges), ("unicode/utf8.first", laid_unicode_utf8_first)] }
def SolverOrderSaid : Prop := solverOrderRow.holds Tryz.pinned (OpenSpec.ofChange solverOrderSpec)

/-- ITS FALSE NEIGHBOUR: 'it returns false'. Refute it at one input. -/
def solverOrderWrong : ChangeSpec := { name := "solverOrder", fn := fun _ => fun
  | [d1, d2] => { results := [.lit (.bool false)], args := [d1, d2] }
  | _ => none }
def SolverOrderWrongFalsely : Prop := solverOrderRow.holds Tryz.pinned (OpenSpec.ofChange solverOrderWrong)

/-- 'modcertlaw37.SolverProves': WHATEVER THE INPUT: true; the input reads as it did. -/
def solverProvesSpec : ChangeSpec := { name := "solverProves", fn := fun _ => fun
  | [d1, d2] => { results := [.lit (.bool true)], args := [d1, d2] }
  | _ => none }
def solverProvesRow : OpenClaim := { program := "ytkmnnpmneamgoaagreatdoor", sum := "ce505e6a68cbf8df8fec4f1c844c117be3e6e483255e52d58b16c14a02ffbcfa", func := "modcert/modcertlaw37.SolverProves", spec := "solverProves", inPlace := ["internal/bytealg.CountString", "internal/bytealg.IndexByteString", "internal/bytealg.IndexString", "internal/bytealg.abigen_runtime_cmpstring"], unfollowed := true, recurses := true, named := ["unicode/utf8.first", "unicode/utf8.acceptRanges", "internal/bytealg.MaxLen"], loops := true, plainKeys := false, apart := false, laid := [("unicode/utf8.acceptRanges", laid_unicode_utf8_acceptRanges), ("unicode/utf8.first", laid_unicode_utf8_first)] }
def SolverProvesSaid : Prop := solverProvesRow.holds Tryz.pinned (OpenSpec.ofChange solverProvesSpec)

/-- ITS FALSE NEIGHBOUR: 'it returns false'. Refute it at one input. -/
def solverProvesWrong : ChangeSpec := { name := "solverProves", fn := fun _ => fun
  | [d1, d2] => { results := [.lit (.bool false)], args := [d1, d2] }
  | _ => none }
def SolverProvesWrongFalsely : Prop := solverProvesRow.holds Tryz.pinned (OpenSpec.ofChange solverProvesWrong)

/- THE SECOND FORM. 'bulk': how many values and letters a reading holds, each counted each time it is reached (what is shared counts as often as it is met; a slice's spare places count too). A statement '..UptoSaid' is the law's where the arguments, and the package variables that the reading takes, are together of bulk at most 1048576: NARROWER than '..Said'. Prove '..Said' where nothing that the law and all that it calls make is longer than what came in: it says more and counts as full. Else prove '..UptoSaid'. A law counts once. -/
mutual
def uptoBulk {H : Type} : DataW H → Nat
  | .lit (.string bytes) => bytes.length + 1
  | .lit _ => 1
  | .nil => 1
  | .ptr d => uptoBulk d + 1
  | .slice elems spare => uptoBulkAll elems + uptoBulkAll spare + 1
  | .agg parts => uptoBulkAll parts + 1
  | .iface _ d => uptoBulk d + 1
  | .map entries => uptoBulkEntries entries + 1
  | .held _ => 1
def uptoBulkAll {H : Type} : List (DataW H) → Nat
  | [] => 0
  | d :: r => uptoBulk d + uptoBulkAll r
def uptoBulkEntries {H : Type} : List (Lit × DataW H) → Nat
  | [] => 0
  | x :: r => uptoBulkEntry x + uptoBulkEntries r
def uptoBulkEntry {H : Type} : Lit × DataW H → Nat
  | (.string bytes, d) => bytes.length + uptoBulk d + 1
  | (_, d) => uptoBulk d + 1
 end
def uptoSmall : (H : Type) → List (DataW H) → Bool := fun _ ds => decide (uptoBulkAll ds ≤ 1048576)
def OpenSpec.upto (s : _root_.Go.ChangeSpec) : _root_.Go.OpenSpec := { _root_.Go.OpenSpec.ofChange s with cond := some uptoSmall }

/-- 'modcertlaw37.SolverLists', WHERE WHAT IT READS IS OF BULK AT MOST 1048576: true; the input reads as it did. -/
def solverListsUptoRow : OpenClaim := { program := "ytkmnnpmneamgoaagreatdoor", sum := "ce505e6a68cbf8df8fec4f1c844c117be3e6e483255e52d58b16c14a02ffbcfa", func := "modcert/modcertlaw37.SolverLists", spec := "solverLists", inPlace := ["internal/bytealg.CountString", "internal/bytealg.IndexByteString", "internal/bytealg.IndexString", "internal/bytealg.abigen_runtime_cmpstring"], unfollowed := true, recurses := true, named := ["unicode/utf8.first", "unicode/utf8.acceptRanges", "internal/bytealg.MaxLen"], loops := true, plainKeys := false, apart := false, laid := [("unicode/utf8.acceptRanges", laid_unicode_utf8_acceptRanges), ("unicode/utf8.first", laid_unicode_utf8_first)], narrowed := true }
def SolverListsUptoSaid : Prop := solverListsUptoRow.holds Tryz.pinned (OpenSpec.upto solverListsSpec)

/-- 'modcertlaw37.SolverCores', WHERE WHAT IT READS IS OF BULK AT MOST 1048576: true; the input reads as it did. -/
def solverCoresUptoRow : OpenClaim := { program := "ytkmnnpmneamgoaagreatdoor", sum := "ce505e6a68cbf8df8fec4f1c844c117be3e6e483255e52d58b16c14a02ffbcfa", func := "modcert/modcertlaw37.SolverCores", spec := "solverCores", inPlace := ["internal/bytealg.CountString", "internal/bytealg.IndexByteString", "internal/bytealg.IndexString", "internal/bytealg.abigen_runtime_cmpstring"], unfollowed := true, recurses := true, named := ["unicode/utf8.first", "unicode/utf8.acceptRanges", "internal/bytealg.MaxLen"], loops := true, plainKeys := false, apart := false, laid := [("unicode/utf8.acceptRanges", laid_unicode_utf8_acceptRanges), ("unicode/utf8.first", laid_unicode_utf8_first)], narrowed := true }
def SolverCoresUptoSaid : Prop := solverCoresUptoRow.holds Tryz.pinned (OpenSpec.upto solverCoresSpec)

/-- 'modcertlaw37.SolverMinimal', WHERE WHAT IT READS IS OF BULK AT MOST 1048576: true; the input reads as it did. -/
def solverMinimalUptoRow : OpenClaim := { program := "ytkmnnpmneamgoaagreatdoor", sum := "ce505e6a68cbf8df8fec4f1c844c117be3e6e483255e52d58b16c14a02ffbcfa", func := "modcert/modcertlaw37.SolverMinimal", spec := "solverMinimal", inPlace := ["internal/bytealg.CountString", "internal/bytealg.IndexByteString", "internal/bytealg.IndexString", "internal/bytealg.abigen_runtime_cmpstring"], unfollowed := true, recurses := true, named := ["unicode/utf8.first", "unicode/utf8.acceptRanges", "internal/bytealg.MaxLen"], loops := true, plainKeys := false, apart := false, laid := [("unicode/utf8.acceptRanges", laid_unicode_utf8_acceptRanges), ("unicode/utf8.first", laid_unicode_utf8_first)], narrowed := true }
def SolverMinimalUptoSaid : Prop := solverMinimalUptoRow.holds Tryz.pinned (OpenSpec.upto solverMinimalSpec)

/-- 'modcertlaw37.SolverOrder', WHERE WHAT IT READS IS OF BULK AT MOST 1048576: true; the input reads as it did. -/
def solverOrderUptoRow : OpenClaim := { program := "ytkmnnpmneamgoaagreatdoor", sum := "ce505e6a68cbf8df8fec4f1c844c117be3e6e483255e52d58b16c14a02ffbcfa", func := "modcert/modcertlaw37.SolverOrder", spec := "solverOrder", inPlace := ["internal/bytealg.CountString", "internal/bytealg.IndexByteString", "internal/bytealg.IndexString", "internal/bytealg.abigen_runtime_cmpstring"], unfollowed := true, recurses := true, named := ["unicode/utf8.first", "unicode/utf8.acceptRanges", "internal/bytealg.MaxLen"], loops := true, plainKeys := false, apart := false, laid := [("unicode/utf8.acceptRanges", laid_unicode_utf8_acceptRanges), ("unicode/utf8.first", laid_unicode_utf8_first)], narrowed := true }
def SolverOrderUptoSaid : Prop := solverOrderUptoRow.holds Tryz.pinned (OpenSpec.upto solverOrderSpec)

/-- 'modcertlaw37.SolverProves', WHERE WHAT IT READS IS OF BULK AT MOST 1048576: true; the input reads as it did. -/
def solverProvesUptoRow : OpenClaim := { program := "ytkmnnpmneamgoaagreatdoor", sum := "ce505e6a68cbf8df8fec4f1c844c117be3e6e483255e52d58b16c14a02ffbcfa", func := "modcert/modcertlaw37.SolverProves", spec := "solverProves", inPlace := ["internal/bytealg.CountString", "internal/bytealg.IndexByteString", "internal/bytealg.IndexString", "internal/bytealg.abigen_runtime_cmpstring"], unfollowed := true, recurses := true, named := ["unicode/utf8.first", "unicode/utf8.acceptRanges", "internal/bytealg.MaxLen"], loops := true, plainKeys := false, apart := false, laid := [("unicode/utf8.acceptRanges", laid_unicode_utf8_acceptRanges), ("unicode/utf8.first", laid_unicode_utf8_first)], narrowed := true }
def SolverProvesUptoSaid : Prop := solverProvesUptoRow.holds Tryz.pinned (OpenSpec.upto solverProvesSpec)

end Rows
end Go.Proofs.YtkmnnpmneamgoaaGreatDoor
