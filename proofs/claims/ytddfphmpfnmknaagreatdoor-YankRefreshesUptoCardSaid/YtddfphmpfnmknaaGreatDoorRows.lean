/-
  NARROWER THAN 'FOR EVERY INPUT', by the rows' own cells (each row's printed sentence says how): YankBack: loops, laid · YankFits: loops, laid · YankNever: loops, laid · YankChanges: loops, laid · YankRefreshes: loops, laid · YankKeeps: loops, laid.
  DERIVED. THE GIVEN ROWS OF THIS SEAT. 6 by the template 'for every input the law returns true; each argument reads behind the call as it read before'; 0 by the template 'total and deterministic' (their statements: YtddfphmpfnmknaaGreatDoorTotals.lean).
  GIVEN WITH THE SEED: the statements are not yours to turn. If you find one false, say at which input.
  Laid BY PROGRAM, IN A SANDBOX (cutbox-rows.mjs): the forced cells as the released guide's own fill.sh prints them over the translation f55da9aabdf04c83… (all of the seat's roots in one cut). By AI agents, Wed Nov 11 2026. No macro, syntax, notation, axiom, sorry.
-/
import Derived.Test.YtddfphmpfnmknaaGreatDoorChecked
import GoSem.PinnedTables
import GoSem.Claim
import GoSem.ClaimJoined
import GoSem.ClaimMapViews
import Derived.JoinedTies
import Derived.KernelRfl
namespace Go.Proofs.YtddfphmpfnmknaaGreatDoor
/- THE CELL 'sum', in the pinned program and in every row, IS THE sha256 OF THE DUMP (.gsa) THAT YtddfphmpfnmknaaGreatDoorProg.lean LOADS. Nothing in Lean hashes anything: it is a label: what it is worth is what the hold of that sum in a sandbox is worth. -/
noncomputable def Tryz.pinned : Pinned := { name := "ytddfphmpfnmknaagreatdoor", sum := "f55da9aabdf04c83f592a5a05eb24948c4380708b39f514c9ca1a0defc4e8222", checked := Tryz.checked }
namespace Rows
def none {H : Type} : Left H := { results := [], args := [] }

/- WHAT THE LISTED PACKAGE-LEVEL VARIABLES READ AS WHEN THE CALL BEGINS. Each datum BY PROGRAM (the guide's laid-datum.mjs) off the statement by which the dump's own 'gosem.cut.vars' lays the variable. In a bare row this is a premise. The card (YtddfphmpfnmknaaGreatDoorCards.lean) ties it to the program's text. -/
def laid_unicode_utf8_acceptRanges {H : Type} : DataW H := .agg [.agg [.lit (.int .u8 128), .lit (.int .u8 191)], .agg [.lit (.int .u8 160), .lit (.int .u8 191)], .agg [.lit (.int .u8 128), .lit (.int .u8 159)], .agg [.lit (.int .u8 144), .lit (.int .u8 191)], .agg [.lit (.int .u8 128), .lit (.int .u8 143)], .agg [.lit (.int .u8 0), .lit (.int .u8 0)], .agg [.lit (.int .u8 0), .lit (.int .u8 0)], .agg [.lit (.int .u8 0), .lit (.int .u8 0)], .agg [.lit (.int .u8 0), .lit (.int .u8 0)], .agg [.lit (.int .u8 0), .lit (.int .u8 0)], .agg [.lit (.int .u8 0), .lit (.int .u8 0)], .agg [.lit (.int .u8 0), .lit (.int .u8 0)], .agg [.lit (.int .u8 0), .lit (.int .u8 0)], .agg [.lit (.int .u8 0), .lit (.int .u8 0)], .agg [.lit (.int .u8 0), .lit (.int .u8 0)], .agg [.lit (.int .u8 0), .lit (.int .u8 0)]]
/-- One of Go's own tables, pinned by name: the form's constant. -/
def laid_unicode_utf8_first : DataW Unit := Go.Pinned.utf8First

/-- 'modcertlaw43.YankBack': WHATEVER THE INPUT: true; the input reads as it did. -/
def yankBackSpec : ChangeSpec := { name := "yankBack", fn := fun _ => fun
  | [d1, d2] => { results := [.lit (.bool true)], args := [d1, d2] }
  | _ => none }
def yankBackRow : OpenClaim := { program := "ytddfphmpfnmknaagreatdoor", sum := "f55da9aabdf04c83f592a5a05eb24948c4380708b39f514c9ca1a0defc4e8222", func := "modcert/modcertlaw43.YankBack", spec := "yankBack", inPlace := ["internal/bytealg.CountString", "internal/bytealg.IndexByteString", "internal/bytealg.IndexString", "internal/bytealg.abigen_runtime_cmpstring"], unfollowed := true, recurses := true, named := ["unicode/utf8.first", "unicode/utf8.acceptRanges", "internal/bytealg.MaxLen"], loops := true, plainKeys := false, apart := false, laid := [("unicode/utf8.acceptRanges", laid_unicode_utf8_acceptRanges), ("unicode/utf8.first", laid_unicode_utf8_first)] }
def YankBackSaid : Prop := yankBackRow.holds Tryz.pinned (OpenSpec.ofChange yankBackSpec)

/-- ITS FALSE NEIGHBOUR: 'it returns false'. Refute it at one input. -/
def yankBackWrong : ChangeSpec := { name := "yankBack", fn := fun _ => fun
  | [d1, d2] => { results := [.lit (.bool false)], args := [d1, d2] }
  | _ => none }
def YankBackWrongFalsely : Prop := yankBackRow.holds Tryz.pinned (OpenSpec.ofChange yankBackWrong)

/-- 'modcertlaw43.YankFits': WHATEVER THE INPUT: true; the input reads as it did. -/
def yankFitsSpec : ChangeSpec := { name := "yankFits", fn := fun _ => fun
  | [d1, d2] => { results := [.lit (.bool true)], args := [d1, d2] }
  | _ => none }
def yankFitsRow : OpenClaim := { program := "ytddfphmpfnmknaagreatdoor", sum := "f55da9aabdf04c83f592a5a05eb24948c4380708b39f514c9ca1a0defc4e8222", func := "modcert/modcertlaw43.YankFits", spec := "yankFits", inPlace := ["internal/bytealg.CountString", "internal/bytealg.IndexByteString", "internal/bytealg.IndexString", "internal/bytealg.abigen_runtime_cmpstring"], unfollowed := true, recurses := true, named := ["unicode/utf8.first", "unicode/utf8.acceptRanges", "internal/bytealg.MaxLen"], loops := true, plainKeys := false, apart := false, laid := [("unicode/utf8.acceptRanges", laid_unicode_utf8_acceptRanges), ("unicode/utf8.first", laid_unicode_utf8_first)] }
def YankFitsSaid : Prop := yankFitsRow.holds Tryz.pinned (OpenSpec.ofChange yankFitsSpec)

/-- ITS FALSE NEIGHBOUR: 'it returns false'. Refute it at one input. -/
def yankFitsWrong : ChangeSpec := { name := "yankFits", fn := fun _ => fun
  | [d1, d2] => { results := [.lit (.bool false)], args := [d1, d2] }
  | _ => none }
def YankFitsWrongFalsely : Prop := yankFitsRow.holds Tryz.pinned (OpenSpec.ofChange yankFitsWrong)

/-- 'modcertlaw43.YankNever': WHATEVER THE INPUT: true; the input reads as it did. -/
def yankNeverSpec : ChangeSpec := { name := "yankNever", fn := fun _ => fun
  | [d1, d2, d3] => { results := [.lit (.bool true)], args := [d1, d2, d3] }
  | _ => none }
def yankNeverRow : OpenClaim := { program := "ytddfphmpfnmknaagreatdoor", sum := "f55da9aabdf04c83f592a5a05eb24948c4380708b39f514c9ca1a0defc4e8222", func := "modcert/modcertlaw43.YankNever", spec := "yankNever", inPlace := ["internal/bytealg.CountString", "internal/bytealg.IndexByteString", "internal/bytealg.IndexString", "internal/bytealg.abigen_runtime_cmpstring"], unfollowed := true, recurses := true, named := ["unicode/utf8.first", "unicode/utf8.acceptRanges", "internal/bytealg.MaxLen"], loops := true, plainKeys := false, apart := false, laid := [("unicode/utf8.acceptRanges", laid_unicode_utf8_acceptRanges), ("unicode/utf8.first", laid_unicode_utf8_first)] }
def YankNeverSaid : Prop := yankNeverRow.holds Tryz.pinned (OpenSpec.ofChange yankNeverSpec)

/-- ITS FALSE NEIGHBOUR: 'it returns false'. Refute it at one input. -/
def yankNeverWrong : ChangeSpec := { name := "yankNever", fn := fun _ => fun
  | [d1, d2, d3] => { results := [.lit (.bool false)], args := [d1, d2, d3] }
  | _ => none }
def YankNeverWrongFalsely : Prop := yankNeverRow.holds Tryz.pinned (OpenSpec.ofChange yankNeverWrong)

/-- 'modcertlaw43.YankChanges': WHATEVER THE INPUT: true; the input reads as it did. -/
def yankChangesSpec : ChangeSpec := { name := "yankChanges", fn := fun _ => fun
  | [d1, d2, d3] => { results := [.lit (.bool true)], args := [d1, d2, d3] }
  | _ => none }
def yankChangesRow : OpenClaim := { program := "ytddfphmpfnmknaagreatdoor", sum := "f55da9aabdf04c83f592a5a05eb24948c4380708b39f514c9ca1a0defc4e8222", func := "modcert/modcertlaw43.YankChanges", spec := "yankChanges", inPlace := ["internal/bytealg.CountString", "internal/bytealg.IndexByteString", "internal/bytealg.IndexString", "internal/bytealg.abigen_runtime_cmpstring"], unfollowed := true, recurses := true, named := ["unicode/utf8.first", "unicode/utf8.acceptRanges", "internal/bytealg.MaxLen"], loops := true, plainKeys := false, apart := false, laid := [("unicode/utf8.acceptRanges", laid_unicode_utf8_acceptRanges), ("unicode/utf8.first", laid_unicode_utf8_first)] }
def YankChangesSaid : Prop := yankChangesRow.holds Tryz.pinned (OpenSpec.ofChange yankChangesSpec)

/-- ITS FALSE NEIGHBOUR: 'it returns false'. Refute it at one input. -/
def yankChangesWrong : ChangeSpec := { name := "yankChanges", fn := fun _ => fun
  | [d1, d2, d3] => { results := [.lit (.bool false)], args := [d1, d2, d3] }
  | _ => none }
def YankChangesWrongFalsely : Prop := yankChangesRow.holds Tryz.pinned (OpenSpec.ofChange yankChangesWrong)

/-- 'modcertlaw43.YankRefreshes': WHATEVER THE INPUT: true; the input reads as it did. -/
def yankRefreshesSpec : ChangeSpec := { name := "yankRefreshes", fn := fun _ => fun
  | [d1, d2, d3, d4] => { results := [.lit (.bool true)], args := [d1, d2, d3, d4] }
  | _ => none }
def yankRefreshesRow : OpenClaim := { program := "ytddfphmpfnmknaagreatdoor", sum := "f55da9aabdf04c83f592a5a05eb24948c4380708b39f514c9ca1a0defc4e8222", func := "modcert/modcertlaw43.YankRefreshes", spec := "yankRefreshes", inPlace := ["internal/bytealg.CountString", "internal/bytealg.IndexByteString", "internal/bytealg.IndexString", "internal/bytealg.abigen_runtime_cmpstring"], unfollowed := true, recurses := true, named := ["unicode/utf8.first", "unicode/utf8.acceptRanges", "internal/bytealg.MaxLen"], loops := true, plainKeys := false, apart := false, laid := [("unicode/utf8.acceptRanges", laid_unicode_utf8_acceptRanges), ("unicode/utf8.first", laid_unicode_utf8_first)] }
def YankRefreshesSaid : Prop := yankRefreshesRow.holds Tryz.pinned (OpenSpec.ofChange yankRefreshesSpec)

/-- ITS FALSE NEIGHBOUR: 'it returns false'. Refute it at one input. -/
def yankRefreshesWrong : ChangeSpec := { name := "yankRefreshes", fn := fun _ => fun
  | [d1, d2, d3, d4] => { results := [.lit (.bool false)], args := [d1, d2, d3, d4] }
  | _ => none }
def YankRefreshesWrongFalsely : Prop := yankRefreshesRow.holds Tryz.pinned (OpenSpec.ofChange yankRefreshesWrong)

/-- 'modcertlaw43.YankKeeps': WHATEVER THE INPUT: true; the input reads as it did. -/
def yankKeepsSpec : ChangeSpec := { name := "yankKeeps", fn := fun _ => fun
  | [d1, d2, d3] => { results := [.lit (.bool true)], args := [d1, d2, d3] }
  | _ => none }
def yankKeepsRow : OpenClaim := { program := "ytddfphmpfnmknaagreatdoor", sum := "f55da9aabdf04c83f592a5a05eb24948c4380708b39f514c9ca1a0defc4e8222", func := "modcert/modcertlaw43.YankKeeps", spec := "yankKeeps", inPlace := ["internal/bytealg.CountString", "internal/bytealg.IndexByteString", "internal/bytealg.IndexString", "internal/bytealg.abigen_runtime_cmpstring"], unfollowed := true, recurses := true, named := ["unicode/utf8.first", "unicode/utf8.acceptRanges", "internal/bytealg.MaxLen"], loops := true, plainKeys := false, apart := false, laid := [("unicode/utf8.acceptRanges", laid_unicode_utf8_acceptRanges), ("unicode/utf8.first", laid_unicode_utf8_first)] }
def YankKeepsSaid : Prop := yankKeepsRow.holds Tryz.pinned (OpenSpec.ofChange yankKeepsSpec)

/-- ITS FALSE NEIGHBOUR: 'it returns false'. Refute it at one input. -/
def yankKeepsWrong : ChangeSpec := { name := "yankKeeps", fn := fun _ => fun
  | [d1, d2, d3] => { results := [.lit (.bool false)], args := [d1, d2, d3] }
  | _ => none }
def YankKeepsWrongFalsely : Prop := yankKeepsRow.holds Tryz.pinned (OpenSpec.ofChange yankKeepsWrong)

/- THE SECOND FORM. 'bulk': how many values and letters a reading holds, each counted each time it is reached (what is shared counts as often as it is met; a slice's spare places count too). A statement '..UptoSaid' is the law's where the arguments, and the package variables that the reading takes, are together of bulk at most 1048576: NARROWER than '..Said'. Prove '..Said' where nothing that the law and all that it calls make is longer than what came in: it says more and counts as full. Else prove '..UptoSaid'. A law counts once. -/
mutual
def uptoBulk {H : Type} : DataW H → Nat
  | .lit (.string bytes) => bytes.length + 1
  | .lit _ => 1
  | .nil => 1
  | .ptr d => uptoBulk d + 1
  | .slice elems spare => uptoBulkAll elems + uptoBulkAll spare + 1
  | .agg parts => uptoBulkAll parts + 1
  | .iface _ d => uptoBulk d + 1
  | .map entries => uptoBulkEntries entries + 1
  | .held _ => 1
def uptoBulkAll {H : Type} : List (DataW H) → Nat
  | [] => 0
  | d :: r => uptoBulk d + uptoBulkAll r
def uptoBulkEntries {H : Type} : List (Lit × DataW H) → Nat
  | [] => 0
  | x :: r => uptoBulkEntry x + uptoBulkEntries r
def uptoBulkEntry {H : Type} : Lit × DataW H → Nat
  | (.string bytes, d) => bytes.length + uptoBulk d + 1
  | (_, d) => uptoBulk d + 1
 end
def uptoSmall : (H : Type) → List (DataW H) → Bool := fun _ ds => decide (uptoBulkAll ds ≤ 1048576)
def OpenSpec.upto (s : _root_.Go.ChangeSpec) : _root_.Go.OpenSpec := { _root_.Go.OpenSpec.ofChange s with cond := some uptoSmall }

/-- 'modcertlaw43.YankBack', WHERE WHAT IT READS IS OF BULK AT MOST 1048576: true; the input reads as it did. -/
def yankBackUptoRow : OpenClaim := { program := "ytddfphmpfnmknaagreatdoor", sum := "f55da9aabdf04c83f592a5a05eb24948c4380708b39f514c9ca1a0defc4e8222", func := "modcert/modcertlaw43.YankBack", spec := "yankBack", inPlace := ["internal/bytealg.CountString", "internal/bytealg.IndexByteString", "internal/bytealg.IndexString", "internal/bytealg.abigen_runtime_cmpstring"], unfollowed := true, recurses := true, named := ["unicode/utf8.first", "unicode/utf8.acceptRanges", "internal/bytealg.MaxLen"], loops := true, plainKeys := false, apart := false, laid := [("unicode/utf8.acceptRanges", laid_unicode_utf8_acceptRanges), ("unicode/utf8.first", laid_unicode_utf8_first)], narrowed := true }
def YankBackUptoSaid : Prop := yankBackUptoRow.holds Tryz.pinned (OpenSpec.upto yankBackSpec)

/-- 'modcertlaw43.YankFits', WHERE WHAT IT READS IS OF BULK AT MOST 1048576: true; the input reads as it did. -/
def yankFitsUptoRow : OpenClaim := { program := "ytddfphmpfnmknaagreatdoor", sum := "f55da9aabdf04c83f592a5a05eb24948c4380708b39f514c9ca1a0defc4e8222", func := "modcert/modcertlaw43.YankFits", spec := "yankFits", inPlace := ["internal/bytealg.CountString", "internal/bytealg.IndexByteString", "internal/bytealg.IndexString", "internal/bytealg.abigen_runtime_cmpstring"], unfollowed := true, recurses := true, named := ["unicode/utf8.first", "unicode/utf8.acceptRanges", "internal/bytealg.MaxLen"], loops := true, plainKeys := false, apart := false, laid := [("unicode/utf8.acceptRanges", laid_unicode_utf8_acceptRanges), ("unicode/utf8.first", laid_unicode_utf8_first)], narrowed := true }
def YankFitsUptoSaid : Prop := yankFitsUptoRow.holds Tryz.pinned (OpenSpec.upto yankFitsSpec)

/-- 'modcertlaw43.YankNever', WHERE WHAT IT READS IS OF BULK AT MOST 1048576: true; the input reads as it did. -/
def yankNeverUptoRow : OpenClaim := { program := "ytddfphmpfnmknaagreatdoor", sum := "f55da9aabdf04c83f592a5a05eb24948c4380708b39f514c9ca1a0defc4e8222", func := "modcert/modcertlaw43.YankNever", spec := "yankNever", inPlace := ["internal/bytealg.CountString", "internal/bytealg.IndexByteString", "internal/bytealg.IndexString", "internal/bytealg.abigen_runtime_cmpstring"], unfollowed := true, recurses := true, named := ["unicode/utf8.first", "unicode/utf8.acceptRanges", "internal/bytealg.MaxLen"], loops := true, plainKeys := false, apart := false, laid := [("unicode/utf8.acceptRanges", laid_unicode_utf8_acceptRanges), ("unicode/utf8.first", laid_unicode_utf8_first)], narrowed := true }
def YankNeverUptoSaid : Prop := yankNeverUptoRow.holds Tryz.pinned (OpenSpec.upto yankNeverSpec)

/-- 'modcertlaw43.YankChanges', WHERE WHAT IT READS IS OF BULK AT MOST 1048576: true; the input reads as it did. -/
def yankChangesUptoRow : OpenClaim := { program := "ytddfphmpfnmknaagreatdoor", sum := "f55da9aabdf04c83f592a5a05eb24948c4380708b39f514c9ca1a0defc4e8222", func := "modcert/modcertlaw43.YankChanges", spec := "yankChanges", inPlace := ["internal/bytealg.CountString", "internal/bytealg.IndexByteString", "internal/bytealg.IndexString", "internal/bytealg.abigen_runtime_cmpstring"], unfollowed := true, recurses := true, named := ["unicode/utf8.first", "unicode/utf8.acceptRanges", "internal/bytealg.MaxLen"], loops := true, plainKeys := false, apart := false, laid := [("unicode/utf8.acceptRanges", laid_unicode_utf8_acceptRanges), ("unicode/utf8.first", laid_unicode_utf8_first)], narrowed := true }
def YankChangesUptoSaid : Prop := yankChangesUptoRow.holds Tryz.pinned (OpenSpec.upto yankChangesSpec)

/-- 'modcertlaw43.YankRefreshes', WHERE WHAT IT READS IS OF BULK AT MOST 1048576: true; the input reads as it did. -/
def yankRefreshesUptoRow : OpenClaim := { program := "ytddfphmpfnmknaagreatdoor", sum := "f55da9aabdf04c83f592a5a05eb24948c4380708b39f514c9ca1a0defc4e8222", func := "modcert/modcertlaw43.YankRefreshes", spec := "yankRefreshes", inPlace := ["internal/bytealg.CountString", "internal/bytealg.IndexByteString", "internal/bytealg.IndexString", "internal/bytealg.abigen_runtime_cmpstring"], unfollowed := true, recurses := true, named := ["unicode/utf8.first", "unicode/utf8.acceptRanges", "internal/bytealg.MaxLen"], loops := true, plainKeys := false, apart := false, laid := [("unicode/utf8.acceptRanges", laid_unicode_utf8_acceptRanges), ("unicode/utf8.first", laid_unicode_utf8_first)], narrowed := true }
def YankRefreshesUptoSaid : Prop := yankRefreshesUptoRow.holds Tryz.pinned (OpenSpec.upto yankRefreshesSpec)

/-- 'modcertlaw43.YankKeeps', WHERE WHAT IT READS IS OF BULK AT MOST 1048576: true; the input reads as it did. -/
def yankKeepsUptoRow : OpenClaim := { program := "ytddfphmpfnmknaagreatdoor", sum := "f55da9aabdf04c83f592a5a05eb24948c4380708b39f514c9ca1a0defc4e8222", func := "modcert/modcertlaw43.YankKeeps", spec := "yankKeeps", inPlace := ["internal/bytealg.CountString", "internal/bytealg.IndexByteString", "internal/bytealg.IndexString", "internal/bytealg.abigen_runtime_cmpstring"], unfollowed := true, recurses := true, named := ["unicode/utf8.first", "unicode/utf8.acceptRanges", "internal/bytealg.MaxLen"], loops := true, plainKeys := false, apart := false, laid := [("unicode/utf8.acceptRanges", laid_unicode_utf8_acceptRanges), ("unicode/utf8.first", laid_unicode_utf8_first)], narrowed := true }
def YankKeepsUptoSaid : Prop := yankKeepsUptoRow.holds Tryz.pinned (OpenSpec.upto yankKeepsSpec)

end Rows
end Go.Proofs.YtddfphmpfnmknaaGreatDoor
