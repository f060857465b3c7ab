/-
  NARROWER THAN 'FOR EVERY INPUT', by the rows' own cells (each row's printed sentence says how): DiskFills: laid · DiskMoves: laid · DiskKeeps: laid · DiskStops: laid · DiskNil: laid.
  DERIVED. THE GIVEN ROWS OF THIS SEAT. 5 by the template 'for every input the law returns true; each argument reads behind the call as it read before'; 0 by the template 'total and deterministic' (their statements: YtojolcpblacjjaaDoorTotals.lean).
  GIVEN WITH THE SEED: the statements are not yours to turn. If you find one false, say at which input.
  Laid BY PROGRAM, IN A SANDBOX (cutbox-rows.mjs): the forced cells as the released guide's own fill.sh prints them over the translation c3a5d90f9e8bda77… (all of the seat's roots in one cut). By AI agents, Wed Nov 11 2026. No macro, syntax, notation, axiom, sorry.
-/
import Derived.Test.YtojolcpblacjjaaDoorChecked
import GoSem.PinnedTables
import GoSem.Claim
import GoSem.ClaimJoined
import GoSem.ClaimMapViews
import Derived.JoinedTies
import Derived.KernelRfl
namespace Go.Proofs.YtojolcpblacjjaaDoor
/- THE CELL 'sum', in the pinned program and in every row, IS THE sha256 OF THE DUMP (.gsa) THAT YtojolcpblacjjaaDoorProg.lean LOADS. Nothing in Lean hashes anything: it is a label: what it is worth is what the hold of that sum in a sandbox is worth. -/
noncomputable def Tryd.pinned : Pinned := { name := "ytojolcpblacjjaadoor", sum := "c3a5d90f9e8bda77cf6825b6d582eef74364519c49fef020a41e4bc3e952ce59", checked := Tryd.checked }
namespace Rows
def none {H : Type} : Left H := { results := [], args := [] }

/- WHAT THE LISTED PACKAGE-LEVEL VARIABLES READ AS WHEN THE CALL BEGINS. Each datum BY PROGRAM (the guide's laid-datum.mjs) off the statement by which the dump's own 'gosem.cut.vars' lays the variable. In a bare row this is a premise. The card (YtojolcpblacjjaaDoorCards.lean) ties it to the program's text. -/
def laid_unicode_utf8_acceptRanges {H : Type} : DataW H := .agg [.agg [.lit (.int .u8 128), .lit (.int .u8 191)], .agg [.lit (.int .u8 160), .lit (.int .u8 191)], .agg [.lit (.int .u8 128), .lit (.int .u8 159)], .agg [.lit (.int .u8 144), .lit (.int .u8 191)], .agg [.lit (.int .u8 128), .lit (.int .u8 143)], .agg [.lit (.int .u8 0), .lit (.int .u8 0)], .agg [.lit (.int .u8 0), .lit (.int .u8 0)], .agg [.lit (.int .u8 0), .lit (.int .u8 0)], .agg [.lit (.int .u8 0), .lit (.int .u8 0)], .agg [.lit (.int .u8 0), .lit (.int .u8 0)], .agg [.lit (.int .u8 0), .lit (.int .u8 0)], .agg [.lit (.int .u8 0), .lit (.int .u8 0)], .agg [.lit (.int .u8 0), .lit (.int .u8 0)], .agg [.lit (.int .u8 0), .lit (.int .u8 0)], .agg [.lit (.int .u8 0), .lit (.int .u8 0)], .agg [.lit (.int .u8 0), .lit (.int .u8 0)]]
/-- One of Go's own tables, pinned by name: the form's constant. -/
def laid_unicode_utf8_first : DataW Unit := Go.Pinned.utf8First

/-- 'tetherlaw05.DiskFills': WHATEVER THE INPUT: true; the input reads as it did. -/
def diskFillsSpec : ChangeSpec := { name := "diskFills", fn := fun _ => fun
  | [d1, d2] => { results := [.lit (.bool true)], args := [d1, d2] }
  | _ => none }
def diskFillsRow : OpenClaim := { program := "ytojolcpblacjjaadoor", sum := "c3a5d90f9e8bda77cf6825b6d582eef74364519c49fef020a41e4bc3e952ce59", func := "tether/tetherlaw05.DiskFills", spec := "diskFills", inPlace := ["internal/bytealg.CountString", "internal/bytealg.IndexByteString", "internal/bytealg.IndexString"], named := ["unicode/utf8.first", "unicode/utf8.acceptRanges", "internal/bytealg.MaxLen"], apart := false, laid := [("unicode/utf8.acceptRanges", laid_unicode_utf8_acceptRanges), ("unicode/utf8.first", laid_unicode_utf8_first)] }
def DiskFillsSaid : Prop := diskFillsRow.holds Tryd.pinned (OpenSpec.ofChange diskFillsSpec)

/-- ITS FALSE NEIGHBOUR: 'it returns false'. Refute it at one input. -/
def diskFillsWrong : ChangeSpec := { name := "diskFills", fn := fun _ => fun
  | [d1, d2] => { results := [.lit (.bool false)], args := [d1, d2] }
  | _ => none }
def DiskFillsWrongFalsely : Prop := diskFillsRow.holds Tryd.pinned (OpenSpec.ofChange diskFillsWrong)

/-- 'tetherlaw05.DiskMoves': WHATEVER THE INPUT: true; the input reads as it did. -/
def diskMovesSpec : ChangeSpec := { name := "diskMoves", fn := fun _ => fun
  | [d1, d2, d3, d4] => { results := [.lit (.bool true)], args := [d1, d2, d3, d4] }
  | _ => none }
def diskMovesRow : OpenClaim := { program := "ytojolcpblacjjaadoor", sum := "c3a5d90f9e8bda77cf6825b6d582eef74364519c49fef020a41e4bc3e952ce59", func := "tether/tetherlaw05.DiskMoves", spec := "diskMoves", inPlace := ["internal/bytealg.CountString", "internal/bytealg.IndexByteString", "internal/bytealg.IndexString"], unfollowed := true, recurses := true, named := ["unicode/utf8.first", "unicode/utf8.acceptRanges", "internal/bytealg.MaxLen"], apart := false, laid := [("unicode/utf8.acceptRanges", laid_unicode_utf8_acceptRanges), ("unicode/utf8.first", laid_unicode_utf8_first)] }
def DiskMovesSaid : Prop := diskMovesRow.holds Tryd.pinned (OpenSpec.ofChange diskMovesSpec)

/-- ITS FALSE NEIGHBOUR: 'it returns false'. Refute it at one input. -/
def diskMovesWrong : ChangeSpec := { name := "diskMoves", fn := fun _ => fun
  | [d1, d2, d3, d4] => { results := [.lit (.bool false)], args := [d1, d2, d3, d4] }
  | _ => none }
def DiskMovesWrongFalsely : Prop := diskMovesRow.holds Tryd.pinned (OpenSpec.ofChange diskMovesWrong)

/-- 'tetherlaw05.DiskKeeps': WHATEVER THE INPUT: true; the input reads as it did. -/
def diskKeepsSpec : ChangeSpec := { name := "diskKeeps", fn := fun _ => fun
  | [d1, d2, d3, d4] => { results := [.lit (.bool true)], args := [d1, d2, d3, d4] }
  | _ => none }
def diskKeepsRow : OpenClaim := { program := "ytojolcpblacjjaadoor", sum := "c3a5d90f9e8bda77cf6825b6d582eef74364519c49fef020a41e4bc3e952ce59", func := "tether/tetherlaw05.DiskKeeps", spec := "diskKeeps", inPlace := ["internal/bytealg.CountString", "internal/bytealg.IndexByteString", "internal/bytealg.IndexString"], unfollowed := true, recurses := true, named := ["unicode/utf8.first", "unicode/utf8.acceptRanges", "internal/bytealg.MaxLen"], apart := false, laid := [("unicode/utf8.acceptRanges", laid_unicode_utf8_acceptRanges), ("unicode/utf8.first", laid_unicode_utf8_first)] }
def DiskKeepsSaid : Prop := diskKeepsRow.holds Tryd.pinned (OpenSpec.ofChange diskKeepsSpec)

/-- ITS FALSE NEIGHBOUR: 'it returns false'. Refute it at one input. -/
def diskKeepsWrong : ChangeSpec := { name := "diskKeeps", fn := fun _ => fun
  | [d1, d2, d3, d4] => { results := [.lit (.bool false)], args := [d1, d2, d3, d4] }
  | _ => none }
def DiskKeepsWrongFalsely : Prop := diskKeepsRow.holds Tryd.pinned (OpenSpec.ofChange diskKeepsWrong)

/-- 'tetherlaw05.DiskStops': WHATEVER THE INPUT: true; the input reads as it did. -/
def diskStopsSpec : ChangeSpec := { name := "diskStops", fn := fun _ => fun
  | [d1, d2] => { results := [.lit (.bool true)], args := [d1, d2] }
  | _ => none }
def diskStopsRow : OpenClaim := { program := "ytojolcpblacjjaadoor", sum := "c3a5d90f9e8bda77cf6825b6d582eef74364519c49fef020a41e4bc3e952ce59", func := "tether/tetherlaw05.DiskStops", spec := "diskStops", inPlace := ["internal/bytealg.CountString", "internal/bytealg.IndexByteString", "internal/bytealg.IndexString"], unfollowed := true, recurses := true, named := ["unicode/utf8.first", "unicode/utf8.acceptRanges", "internal/bytealg.MaxLen"], apart := false, laid := [("unicode/utf8.acceptRanges", laid_unicode_utf8_acceptRanges), ("unicode/utf8.first", laid_unicode_utf8_first)] }
def DiskStopsSaid : Prop := diskStopsRow.holds Tryd.pinned (OpenSpec.ofChange diskStopsSpec)

/-- ITS FALSE NEIGHBOUR: 'it returns false'. Refute it at one input. -/
def diskStopsWrong : ChangeSpec := { name := "diskStops", fn := fun _ => fun
  | [d1, d2] => { results := [.lit (.bool false)], args := [d1, d2] }
  | _ => none }
def DiskStopsWrongFalsely : Prop := diskStopsRow.holds Tryd.pinned (OpenSpec.ofChange diskStopsWrong)

/-- 'tetherlaw05.DiskNil': WHATEVER THE INPUT: true; the input reads as it did. -/
def diskNilSpec : ChangeSpec := { name := "diskNil", fn := fun _ => fun
  | [d1, d2] => { results := [.lit (.bool true)], args := [d1, d2] }
  | _ => none }
def diskNilRow : OpenClaim := { program := "ytojolcpblacjjaadoor", sum := "c3a5d90f9e8bda77cf6825b6d582eef74364519c49fef020a41e4bc3e952ce59", func := "tether/tetherlaw05.DiskNil", spec := "diskNil", inPlace := ["internal/bytealg.CountString", "internal/bytealg.IndexByteString", "internal/bytealg.IndexString"], unfollowed := true, recurses := true, named := ["unicode/utf8.first", "unicode/utf8.acceptRanges", "internal/bytealg.MaxLen"], apart := false, laid := [("unicode/utf8.acceptRanges", laid_unicode_utf8_acceptRanges), ("unicode/utf8.first", laid_unicode_utf8_first)] }
def DiskNilSaid : Prop := diskNilRow.holds Tryd.pinned (OpenSpec.ofChange diskNilSpec)

/-- ITS FALSE NEIGHBOUR: 'it returns false'. Refute it at one input. -/
def diskNilWrong : ChangeSpec := { name := "diskNil", fn := fun _ => fun
  | [d1, d2] => { results := [.lit (.bool false)], args := [d1, d2] }
  | _ => none }
def DiskNilWrongFalsely : Prop := diskNilRow.holds Tryd.pinned (OpenSpec.ofChange diskNilWrong)

/- THE SECOND FORM. 'bulk': how many values and letters a reading holds, each counted each time it is reached (what is shared counts as often as it is met; a slice's spare places count too). A statement '..UptoSaid' is the law's where the arguments, and the package variables that the reading takes, are together of bulk at most 1048576: NARROWER than '..Said'. Prove '..Said' where nothing that the law and all that it calls make is longer than what came in: it says more and counts as full. Else prove '..UptoSaid'. A law counts once. -/
mutual
def uptoBulk {H : Type} : DataW H → Nat
  | .lit (.string bytes) => bytes.length + 1
  | .lit _ => 1
  | .nil => 1
  | .ptr d => uptoBulk d + 1
  | .slice elems spare => uptoBulkAll elems + uptoBulkAll spare + 1
  | .agg parts => uptoBulkAll parts + 1
  | .iface _ d => uptoBulk d + 1
  | .map entries => uptoBulkEntries entries + 1
  | .held _ => 1
def uptoBulkAll {H : Type} : List (DataW H) → Nat
  | [] => 0
  | d :: r => uptoBulk d + uptoBulkAll r
def uptoBulkEntries {H : Type} : List (Lit × DataW H) → Nat
  | [] => 0
  | x :: r => uptoBulkEntry x + uptoBulkEntries r
def uptoBulkEntry {H : Type} : Lit × DataW H → Nat
  | (.string bytes, d) => bytes.length + uptoBulk d + 1
  | (_, d) => uptoBulk d + 1
 end
def uptoSmall : (H : Type) → List (DataW H) → Bool := fun _ ds => decide (uptoBulkAll ds ≤ 1048576)
def OpenSpec.upto (s : _root_.Go.ChangeSpec) : _root_.Go.OpenSpec := { _root_.Go.OpenSpec.ofChange s with cond := some uptoSmall }

/-- 'tetherlaw05.DiskFills', WHERE WHAT IT READS IS OF BULK AT MOST 1048576: true; the input reads as it did. -/
def diskFillsUptoRow : OpenClaim := { program := "ytojolcpblacjjaadoor", sum := "c3a5d90f9e8bda77cf6825b6d582eef74364519c49fef020a41e4bc3e952ce59", func := "tether/tetherlaw05.DiskFills", spec := "diskFills", inPlace := ["internal/bytealg.CountString", "internal/bytealg.IndexByteString", "internal/bytealg.IndexString"], named := ["unicode/utf8.first", "unicode/utf8.acceptRanges", "internal/bytealg.MaxLen"], apart := false, laid := [("unicode/utf8.acceptRanges", laid_unicode_utf8_acceptRanges), ("unicode/utf8.first", laid_unicode_utf8_first)], narrowed := true }
def DiskFillsUptoSaid : Prop := diskFillsUptoRow.holds Tryd.pinned (OpenSpec.upto diskFillsSpec)

/-- 'tetherlaw05.DiskMoves', WHERE WHAT IT READS IS OF BULK AT MOST 1048576: true; the input reads as it did. -/
def diskMovesUptoRow : OpenClaim := { program := "ytojolcpblacjjaadoor", sum := "c3a5d90f9e8bda77cf6825b6d582eef74364519c49fef020a41e4bc3e952ce59", func := "tether/tetherlaw05.DiskMoves", spec := "diskMoves", inPlace := ["internal/bytealg.CountString", "internal/bytealg.IndexByteString", "internal/bytealg.IndexString"], unfollowed := true, recurses := true, named := ["unicode/utf8.first", "unicode/utf8.acceptRanges", "internal/bytealg.MaxLen"], apart := false, laid := [("unicode/utf8.acceptRanges", laid_unicode_utf8_acceptRanges), ("unicode/utf8.first", laid_unicode_utf8_first)], narrowed := true }
def DiskMovesUptoSaid : Prop := diskMovesUptoRow.holds Tryd.pinned (OpenSpec.upto diskMovesSpec)

/-- 'tetherlaw05.DiskKeeps', WHERE WHAT IT READS IS OF BULK AT MOST 1048576: true; the input reads as it did. -/
def diskKeepsUptoRow : OpenClaim := { program := "ytojolcpblacjjaadoor", sum := "c3a5d90f9e8bda77cf6825b6d582eef74364519c49fef020a41e4bc3e952ce59", func := "tether/tetherlaw05.DiskKeeps", spec := "diskKeeps", inPlace := ["internal/bytealg.CountString", "internal/bytealg.IndexByteString", "internal/bytealg.IndexString"], unfollowed := true, recurses := true, named := ["unicode/utf8.first", "unicode/utf8.acceptRanges", "internal/bytealg.MaxLen"], apart := false, laid := [("unicode/utf8.acceptRanges", laid_unicode_utf8_acceptRanges), ("unicode/utf8.first", laid_unicode_utf8_first)], narrowed := true }
def DiskKeepsUptoSaid : Prop := diskKeepsUptoRow.holds Tryd.pinned (OpenSpec.upto diskKeepsSpec)

/-- 'tetherlaw05.DiskStops', WHERE WHAT IT READS IS OF BULK AT MOST 1048576: true; the input reads as it did. -/
def diskStopsUptoRow : OpenClaim := { program := "ytojolcpblacjjaadoor", sum := "c3a5d90f9e8bda77cf6825b6d582eef74364519c49fef020a41e4bc3e952ce59", func := "tether/tetherlaw05.DiskStops", spec := "diskStops", inPlace := ["internal/bytealg.CountString", "internal/bytealg.IndexByteString", "internal/bytealg.IndexString"], unfollowed := true, recurses := true, named := ["unicode/utf8.first", "unicode/utf8.acceptRanges", "internal/bytealg.MaxLen"], apart := false, laid := [("unicode/utf8.acceptRanges", laid_unicode_utf8_acceptRanges), ("unicode/utf8.first", laid_unicode_utf8_first)], narrowed := true }
def DiskStopsUptoSaid : Prop := diskStopsUptoRow.holds Tryd.pinned (OpenSpec.upto diskStopsSpec)

/-- 'tetherlaw05.DiskNil', WHERE WHAT IT READS IS OF BULK AT MOST 1048576: true; the input reads as it did. -/
def diskNilUptoRow : OpenClaim := { program := "ytojolcpblacjjaadoor", sum := "c3a5d90f9e8bda77cf6825b6d582eef74364519c49fef020a41e4bc3e952ce59", func := "tether/tetherlaw05.DiskNil", spec := "diskNil", inPlace := ["internal/bytealg.CountString", "internal/bytealg.IndexByteString", "internal/bytealg.IndexString"], unfollowed := true, recurses := true, named := ["unicode/utf8.first", "unicode/utf8.acceptRanges", "internal/bytealg.MaxLen"], apart := false, laid := [("unicode/utf8.acceptRanges", laid_unicode_utf8_acceptRanges), ("unicode/utf8.first", laid_unicode_utf8_first)], narrowed := true }
def DiskNilUptoSaid : Prop := diskNilUptoRow.holds Tryd.pinned (OpenSpec.upto diskNilSpec)

end Rows
end Go.Proofs.YtojolcpblacjjaaDoor
