/-
  No cell of these rows narrows 'for every input' (looked for: loops, veiled, ifaces, maps, wideKeys, modest, calm, conditions, laid).
  DERIVED. THE GIVEN ROWS OF THIS SEAT. 15 by the template 'for every input the law returns true; each argument reads behind the call as it read before'; 0 by the template 'total and deterministic' (their statements: YtppnicpbncfhnaaTotals.lean).
  GIVEN WITH THE SEED: the statements are not yours to turn. If you find one false, say at which input.
  Laid BY PROGRAM, IN A SANDBOX (cutbox-rows.mjs): the forced cells as the released guide's own fill.sh prints them over the translation f1acb250da0b9b4f… (all of the seat's roots in one cut). By AI agents, Wed Nov 11 2026. No macro, syntax, notation, axiom, sorry.
-/
import Derived.Test.YtppnicpbncfhnaaChecked
import GoSem.Claim
import GoSem.ClaimJoined
import GoSem.ClaimMapViews
import Derived.JoinedTies
import Derived.KernelRfl
namespace Go.Proofs.Ytppnicpbncfhnaa
/- THE CELL 'sum', in the pinned program and in every row, IS THE sha256 OF THE DUMP (.gsa) THAT YtppnicpbncfhnaaProg.lean LOADS. Nothing in Lean hashes anything: it is a label: what it is worth is what the hold of that sum in a sandbox is worth. -/
noncomputable def Try.pinned : Pinned := { name := "ytppnicpbncfhnaa", sum := "f1acb250da0b9b4f27fab6d2ce0f16ee189755e2e5bbe682876e034111160e66", checked := Try.checked }
namespace Rows
def none {H : Type} : Left H := { results := [], args := [] }

/-- 'tetherlaw01.WirePuts': WHATEVER THE INPUT: true; the input reads as it did. -/
def wirePutsSpec : ChangeSpec := { name := "wirePuts", fn := fun _ => fun
  | [d1, d2] => { results := [.lit (.bool true)], args := [d1, d2] }
  | _ => none }
def wirePutsRow : OpenClaim := { program := "ytppnicpbncfhnaa", sum := "f1acb250da0b9b4f27fab6d2ce0f16ee189755e2e5bbe682876e034111160e66", func := "tether/tetherlaw01.WirePuts", spec := "wirePuts", inPlace := ["internal/abi.NoEscape"], recurses := true, apart := false }
def WirePutsSaid : Prop := wirePutsRow.holds Try.pinned (OpenSpec.ofChange wirePutsSpec)

/-- ITS FALSE NEIGHBOUR: 'it returns false'. Refute it at one input. -/
def wirePutsWrong : ChangeSpec := { name := "wirePuts", fn := fun _ => fun
  | [d1, d2] => { results := [.lit (.bool false)], args := [d1, d2] }
  | _ => none }
def WirePutsWrongFalsely : Prop := wirePutsRow.holds Try.pinned (OpenSpec.ofChange wirePutsWrong)

/-- 'tetherlaw01.WireOne': WHATEVER THE INPUT: true; the input reads as it did. -/
def wireOneSpec : ChangeSpec := { name := "wireOne", fn := fun _ => fun
  | [d] => { results := [.lit (.bool true)], args := [d] }
  | _ => none }
def wireOneRow : OpenClaim := { program := "ytppnicpbncfhnaa", sum := "f1acb250da0b9b4f27fab6d2ce0f16ee189755e2e5bbe682876e034111160e66", func := "tether/tetherlaw01.WireOne", spec := "wireOne", inPlace := ["internal/abi.NoEscape"], apart := false }
def WireOneSaid : Prop := wireOneRow.holds Try.pinned (OpenSpec.ofChange wireOneSpec)

/-- ITS FALSE NEIGHBOUR: 'it returns false'. Refute it at one input. -/
def wireOneWrong : ChangeSpec := { name := "wireOne", fn := fun _ => fun
  | [d] => { results := [.lit (.bool false)], args := [d] }
  | _ => none }
def WireOneWrongFalsely : Prop := wireOneRow.holds Try.pinned (OpenSpec.ofChange wireOneWrong)

/-- 'tetherlaw01.WireReads': WHATEVER THE INPUT: true; the input reads as it did. -/
def wireReadsSpec : ChangeSpec := { name := "wireReads", fn := fun _ => fun
  | [d1, d2, d3] => { results := [.lit (.bool true)], args := [d1, d2, d3] }
  | _ => none }
def wireReadsRow : OpenClaim := { program := "ytppnicpbncfhnaa", sum := "f1acb250da0b9b4f27fab6d2ce0f16ee189755e2e5bbe682876e034111160e66", func := "tether/tetherlaw01.WireReads", spec := "wireReads", inPlace := ["internal/abi.NoEscape"], apart := false }
def WireReadsSaid : Prop := wireReadsRow.holds Try.pinned (OpenSpec.ofChange wireReadsSpec)

/-- ITS FALSE NEIGHBOUR: 'it returns false'. Refute it at one input. -/
def wireReadsWrong : ChangeSpec := { name := "wireReads", fn := fun _ => fun
  | [d1, d2, d3] => { results := [.lit (.bool false)], args := [d1, d2, d3] }
  | _ => none }
def WireReadsWrongFalsely : Prop := wireReadsRow.holds Try.pinned (OpenSpec.ofChange wireReadsWrong)

/-- 'tetherlaw01.WireNil': WHATEVER THE INPUT: true; the input reads as it did. -/
def wireNilSpec : ChangeSpec := { name := "wireNil", fn := fun _ => fun
  | [d] => { results := [.lit (.bool true)], args := [d] }
  | _ => none }
def wireNilRow : OpenClaim := { program := "ytppnicpbncfhnaa", sum := "f1acb250da0b9b4f27fab6d2ce0f16ee189755e2e5bbe682876e034111160e66", func := "tether/tetherlaw01.WireNil", spec := "wireNil", inPlace := ["internal/abi.NoEscape"], recurses := true, apart := false }
def WireNilSaid : Prop := wireNilRow.holds Try.pinned (OpenSpec.ofChange wireNilSpec)

/-- ITS FALSE NEIGHBOUR: 'it returns false'. Refute it at one input. -/
def wireNilWrong : ChangeSpec := { name := "wireNil", fn := fun _ => fun
  | [d] => { results := [.lit (.bool false)], args := [d] }
  | _ => none }
def WireNilWrongFalsely : Prop := wireNilRow.holds Try.pinned (OpenSpec.ofChange wireNilWrong)

/-- 'tetherlaw02.FrameReads': WHATEVER THE INPUT: true; the input reads as it did. -/
def frameReadsSpec : ChangeSpec := { name := "frameReads", fn := fun _ => fun
  | [d1, d2] => { results := [.lit (.bool true)], args := [d1, d2] }
  | _ => none }
def frameReadsRow : OpenClaim := { program := "ytppnicpbncfhnaa", sum := "f1acb250da0b9b4f27fab6d2ce0f16ee189755e2e5bbe682876e034111160e66", func := "tether/tetherlaw02.FrameReads", spec := "frameReads", inPlace := ["internal/abi.NoEscape"], recurses := true, apart := false }
def FrameReadsSaid : Prop := frameReadsRow.holds Try.pinned (OpenSpec.ofChange frameReadsSpec)

/-- ITS FALSE NEIGHBOUR: 'it returns false'. Refute it at one input. -/
def frameReadsWrong : ChangeSpec := { name := "frameReads", fn := fun _ => fun
  | [d1, d2] => { results := [.lit (.bool false)], args := [d1, d2] }
  | _ => none }
def FrameReadsWrongFalsely : Prop := frameReadsRow.holds Try.pinned (OpenSpec.ofChange frameReadsWrong)

/-- 'tetherlaw01.WireJoins': WHATEVER THE INPUT: true; the input reads as it did. -/
def wireJoinsSpec : ChangeSpec := { name := "wireJoins", fn := fun _ => fun
  | [d] => { results := [.lit (.bool true)], args := [d] }
  | _ => none }
def wireJoinsRow : OpenClaim := { program := "ytppnicpbncfhnaa", sum := "f1acb250da0b9b4f27fab6d2ce0f16ee189755e2e5bbe682876e034111160e66", func := "tether/tetherlaw01.WireJoins", spec := "wireJoins", inPlace := ["internal/abi.NoEscape", "internal/bytealg.MakeNoZero"], apart := false }
def WireJoinsSaid : Prop := wireJoinsRow.holds Try.pinned (OpenSpec.ofChange wireJoinsSpec)

/-- ITS FALSE NEIGHBOUR: 'it returns false'. Refute it at one input. -/
def wireJoinsWrong : ChangeSpec := { name := "wireJoins", fn := fun _ => fun
  | [d] => { results := [.lit (.bool false)], args := [d] }
  | _ => none }
def WireJoinsWrongFalsely : Prop := wireJoinsRow.holds Try.pinned (OpenSpec.ofChange wireJoinsWrong)

/-- 'tetherlaw02.FramePacks': WHATEVER THE INPUT: true; the input reads as it did. -/
def framePacksSpec : ChangeSpec := { name := "framePacks", fn := fun _ => fun
  | [d1, d2] => { results := [.lit (.bool true)], args := [d1, d2] }
  | _ => none }
def framePacksRow : OpenClaim := { program := "ytppnicpbncfhnaa", sum := "f1acb250da0b9b4f27fab6d2ce0f16ee189755e2e5bbe682876e034111160e66", func := "tether/tetherlaw02.FramePacks", spec := "framePacks", inPlace := ["internal/abi.NoEscape"], recurses := true, apart := false }
def FramePacksSaid : Prop := framePacksRow.holds Try.pinned (OpenSpec.ofChange framePacksSpec)

/-- ITS FALSE NEIGHBOUR: 'it returns false'. Refute it at one input. -/
def framePacksWrong : ChangeSpec := { name := "framePacks", fn := fun _ => fun
  | [d1, d2] => { results := [.lit (.bool false)], args := [d1, d2] }
  | _ => none }
def FramePacksWrongFalsely : Prop := framePacksRow.holds Try.pinned (OpenSpec.ofChange framePacksWrong)

/-- 'tetherlaw02.FrameScans': WHATEVER THE INPUT: true; the input reads as it did. -/
def frameScansSpec : ChangeSpec := { name := "frameScans", fn := fun _ => fun
  | [d] => { results := [.lit (.bool true)], args := [d] }
  | _ => none }
def frameScansRow : OpenClaim := { program := "ytppnicpbncfhnaa", sum := "f1acb250da0b9b4f27fab6d2ce0f16ee189755e2e5bbe682876e034111160e66", func := "tether/tetherlaw02.FrameScans", spec := "frameScans", inPlace := ["internal/abi.NoEscape"], recurses := true, apart := false }
def FrameScansSaid : Prop := frameScansRow.holds Try.pinned (OpenSpec.ofChange frameScansSpec)

/-- ITS FALSE NEIGHBOUR: 'it returns false'. Refute it at one input. -/
def frameScansWrong : ChangeSpec := { name := "frameScans", fn := fun _ => fun
  | [d] => { results := [.lit (.bool false)], args := [d] }
  | _ => none }
def FrameScansWrongFalsely : Prop := frameScansRow.holds Try.pinned (OpenSpec.ofChange frameScansWrong)

/-- 'tetherlaw02.FrameBack': WHATEVER THE INPUT: true; the input reads as it did. -/
def frameBackSpec : ChangeSpec := { name := "frameBack", fn := fun _ => fun
  | [d1, d2] => { results := [.lit (.bool true)], args := [d1, d2] }
  | _ => none }
def frameBackRow : OpenClaim := { program := "ytppnicpbncfhnaa", sum := "f1acb250da0b9b4f27fab6d2ce0f16ee189755e2e5bbe682876e034111160e66", func := "tether/tetherlaw02.FrameBack", spec := "frameBack", inPlace := ["internal/abi.NoEscape"], apart := false }
def FrameBackSaid : Prop := frameBackRow.holds Try.pinned (OpenSpec.ofChange frameBackSpec)

/-- ITS FALSE NEIGHBOUR: 'it returns false'. Refute it at one input. -/
def frameBackWrong : ChangeSpec := { name := "frameBack", fn := fun _ => fun
  | [d1, d2] => { results := [.lit (.bool false)], args := [d1, d2] }
  | _ => none }
def FrameBackWrongFalsely : Prop := frameBackRow.holds Try.pinned (OpenSpec.ofChange frameBackWrong)

/-- 'tetherlaw02.FrameTurns': WHATEVER THE INPUT: true; the input reads as it did. -/
def frameTurnsSpec : ChangeSpec := { name := "frameTurns", fn := fun _ => fun
  | [d1, d2, d3] => { results := [.lit (.bool true)], args := [d1, d2, d3] }
  | _ => none }
def frameTurnsRow : OpenClaim := { program := "ytppnicpbncfhnaa", sum := "f1acb250da0b9b4f27fab6d2ce0f16ee189755e2e5bbe682876e034111160e66", func := "tether/tetherlaw02.FrameTurns", spec := "frameTurns", inPlace := ["internal/abi.NoEscape"], apart := false }
def FrameTurnsSaid : Prop := frameTurnsRow.holds Try.pinned (OpenSpec.ofChange frameTurnsSpec)

/-- ITS FALSE NEIGHBOUR: 'it returns false'. Refute it at one input. -/
def frameTurnsWrong : ChangeSpec := { name := "frameTurns", fn := fun _ => fun
  | [d1, d2, d3] => { results := [.lit (.bool false)], args := [d1, d2, d3] }
  | _ => none }
def FrameTurnsWrongFalsely : Prop := frameTurnsRow.holds Try.pinned (OpenSpec.ofChange frameTurnsWrong)

/-- 'tetherlaw24.ConfigBytes': WHATEVER THE INPUT: true; the input reads as it did. -/
def configBytesSpec : ChangeSpec := { name := "configBytes", fn := fun _ => fun
  | [d1, d2] => { results := [.lit (.bool true)], args := [d1, d2] }
  | _ => none }
def configBytesRow : OpenClaim := { program := "ytppnicpbncfhnaa", sum := "f1acb250da0b9b4f27fab6d2ce0f16ee189755e2e5bbe682876e034111160e66", func := "tether/tetherlaw24.ConfigBytes", spec := "configBytes", inPlace := ["internal/abi.NoEscape"], recurses := true, apart := false }
def ConfigBytesSaid : Prop := configBytesRow.holds Try.pinned (OpenSpec.ofChange configBytesSpec)

/-- ITS FALSE NEIGHBOUR: 'it returns false'. Refute it at one input. -/
def configBytesWrong : ChangeSpec := { name := "configBytes", fn := fun _ => fun
  | [d1, d2] => { results := [.lit (.bool false)], args := [d1, d2] }
  | _ => none }
def ConfigBytesWrongFalsely : Prop := configBytesRow.holds Try.pinned (OpenSpec.ofChange configBytesWrong)

/-- 'tetherlaw01.WireBack': WHATEVER THE INPUT: true; the input reads as it did. -/
def wireBackSpec : ChangeSpec := { name := "wireBack", fn := fun _ => fun
  | [d1, d2] => { results := [.lit (.bool true)], args := [d1, d2] }
  | _ => none }
def wireBackRow : OpenClaim := { program := "ytppnicpbncfhnaa", sum := "f1acb250da0b9b4f27fab6d2ce0f16ee189755e2e5bbe682876e034111160e66", func := "tether/tetherlaw01.WireBack", spec := "wireBack", inPlace := ["internal/abi.NoEscape", "internal/bytealg.MakeNoZero"], apart := false }
def WireBackSaid : Prop := wireBackRow.holds Try.pinned (OpenSpec.ofChange wireBackSpec)

/-- ITS FALSE NEIGHBOUR: 'it returns false'. Refute it at one input. -/
def wireBackWrong : ChangeSpec := { name := "wireBack", fn := fun _ => fun
  | [d1, d2] => { results := [.lit (.bool false)], args := [d1, d2] }
  | _ => none }
def WireBackWrongFalsely : Prop := wireBackRow.holds Try.pinned (OpenSpec.ofChange wireBackWrong)

/-- 'tetherlaw09.DeltaApplies': WHATEVER THE INPUT: true; the input reads as it did. -/
def deltaAppliesSpec : ChangeSpec := { name := "deltaApplies", fn := fun _ => fun
  | [d1, d2] => { results := [.lit (.bool true)], args := [d1, d2] }
  | _ => none }
def deltaAppliesRow : OpenClaim := { program := "ytppnicpbncfhnaa", sum := "f1acb250da0b9b4f27fab6d2ce0f16ee189755e2e5bbe682876e034111160e66", func := "tether/tetherlaw09.DeltaApplies", spec := "deltaApplies", inPlace := ["internal/abi.NoEscape"], apart := false }
def DeltaAppliesSaid : Prop := deltaAppliesRow.holds Try.pinned (OpenSpec.ofChange deltaAppliesSpec)

/-- ITS FALSE NEIGHBOUR: 'it returns false'. Refute it at one input. -/
def deltaAppliesWrong : ChangeSpec := { name := "deltaApplies", fn := fun _ => fun
  | [d1, d2] => { results := [.lit (.bool false)], args := [d1, d2] }
  | _ => none }
def DeltaAppliesWrongFalsely : Prop := deltaAppliesRow.holds Try.pinned (OpenSpec.ofChange deltaAppliesWrong)

/-- 'tetherlaw09.DeltaBack': WHATEVER THE INPUT: true; the input reads as it did. -/
def deltaBackSpec : ChangeSpec := { name := "deltaBack", fn := fun _ => fun
  | [d1, d2] => { results := [.lit (.bool true)], args := [d1, d2] }
  | _ => none }
def deltaBackRow : OpenClaim := { program := "ytppnicpbncfhnaa", sum := "f1acb250da0b9b4f27fab6d2ce0f16ee189755e2e5bbe682876e034111160e66", func := "tether/tetherlaw09.DeltaBack", spec := "deltaBack", inPlace := ["internal/abi.NoEscape"], apart := false }
def DeltaBackSaid : Prop := deltaBackRow.holds Try.pinned (OpenSpec.ofChange deltaBackSpec)

/-- ITS FALSE NEIGHBOUR: 'it returns false'. Refute it at one input. -/
def deltaBackWrong : ChangeSpec := { name := "deltaBack", fn := fun _ => fun
  | [d1, d2] => { results := [.lit (.bool false)], args := [d1, d2] }
  | _ => none }
def DeltaBackWrongFalsely : Prop := deltaBackRow.holds Try.pinned (OpenSpec.ofChange deltaBackWrong)

/-- 'tetherlaw09.DeltaSmall': WHATEVER THE INPUT: true; the input reads as it did. -/
def deltaSmallSpec : ChangeSpec := { name := "deltaSmall", fn := fun _ => fun
  | [d1, d2] => { results := [.lit (.bool true)], args := [d1, d2] }
  | _ => none }
def deltaSmallRow : OpenClaim := { program := "ytppnicpbncfhnaa", sum := "f1acb250da0b9b4f27fab6d2ce0f16ee189755e2e5bbe682876e034111160e66", func := "tether/tetherlaw09.DeltaSmall", spec := "deltaSmall", inPlace := ["internal/abi.NoEscape"], apart := false }
def DeltaSmallSaid : Prop := deltaSmallRow.holds Try.pinned (OpenSpec.ofChange deltaSmallSpec)

/-- ITS FALSE NEIGHBOUR: 'it returns false'. Refute it at one input. -/
def deltaSmallWrong : ChangeSpec := { name := "deltaSmall", fn := fun _ => fun
  | [d1, d2] => { results := [.lit (.bool false)], args := [d1, d2] }
  | _ => none }
def DeltaSmallWrongFalsely : Prop := deltaSmallRow.holds Try.pinned (OpenSpec.ofChange deltaSmallWrong)

/- THE SECOND FORM. 'bulk': how many values and letters a reading holds, each counted each time it is reached (what is shared counts as often as it is met; a slice's spare places count too). A statement '..UptoSaid' is the law's where the arguments, and the package variables that the reading takes, are together of bulk at most 1048576: NARROWER than '..Said'. Prove '..Said' where nothing that the law and all that it calls make is longer than what came in: it says more and counts as full. Else prove '..UptoSaid'. A law counts once. -/
mutual
def uptoBulk {H : Type} : DataW H → Nat
  | .lit (.string bytes) => bytes.length + 1
  | .lit _ => 1
  | .nil => 1
  | .ptr d => uptoBulk d + 1
  | .slice elems spare => uptoBulkAll elems + uptoBulkAll spare + 1
  | .agg parts => uptoBulkAll parts + 1
  | .iface _ d => uptoBulk d + 1
  | .map entries => uptoBulkEntries entries + 1
  | .held _ => 1
def uptoBulkAll {H : Type} : List (DataW H) → Nat
  | [] => 0
  | d :: r => uptoBulk d + uptoBulkAll r
def uptoBulkEntries {H : Type} : List (Lit × DataW H) → Nat
  | [] => 0
  | x :: r => uptoBulkEntry x + uptoBulkEntries r
def uptoBulkEntry {H : Type} : Lit × DataW H → Nat
  | (.string bytes, d) => bytes.length + uptoBulk d + 1
  | (_, d) => uptoBulk d + 1
 end
def uptoSmall : (H : Type) → List (DataW H) → Bool := fun _ ds => decide (uptoBulkAll ds ≤ 1048576)
def OpenSpec.upto (s : _root_.Go.ChangeSpec) : _root_.Go.OpenSpec := { _root_.Go.OpenSpec.ofChange s with cond := some uptoSmall }

/-- 'tetherlaw01.WirePuts', WHERE WHAT IT READS IS OF BULK AT MOST 1048576: true; the input reads as it did. -/
def wirePutsUptoRow : OpenClaim := { program := "ytppnicpbncfhnaa", sum := "f1acb250da0b9b4f27fab6d2ce0f16ee189755e2e5bbe682876e034111160e66", func := "tether/tetherlaw01.WirePuts", spec := "wirePuts", inPlace := ["internal/abi.NoEscape"], recurses := true, apart := false, narrowed := true }
def WirePutsUptoSaid : Prop := wirePutsUptoRow.holds Try.pinned (OpenSpec.upto wirePutsSpec)

/-- 'tetherlaw01.WireOne', WHERE WHAT IT READS IS OF BULK AT MOST 1048576: true; the input reads as it did. -/
def wireOneUptoRow : OpenClaim := { program := "ytppnicpbncfhnaa", sum := "f1acb250da0b9b4f27fab6d2ce0f16ee189755e2e5bbe682876e034111160e66", func := "tether/tetherlaw01.WireOne", spec := "wireOne", inPlace := ["internal/abi.NoEscape"], apart := false, narrowed := true }
def WireOneUptoSaid : Prop := wireOneUptoRow.holds Try.pinned (OpenSpec.upto wireOneSpec)

/-- 'tetherlaw01.WireReads', WHERE WHAT IT READS IS OF BULK AT MOST 1048576: true; the input reads as it did. -/
def wireReadsUptoRow : OpenClaim := { program := "ytppnicpbncfhnaa", sum := "f1acb250da0b9b4f27fab6d2ce0f16ee189755e2e5bbe682876e034111160e66", func := "tether/tetherlaw01.WireReads", spec := "wireReads", inPlace := ["internal/abi.NoEscape"], apart := false, narrowed := true }
def WireReadsUptoSaid : Prop := wireReadsUptoRow.holds Try.pinned (OpenSpec.upto wireReadsSpec)

/-- 'tetherlaw01.WireNil', WHERE WHAT IT READS IS OF BULK AT MOST 1048576: true; the input reads as it did. -/
def wireNilUptoRow : OpenClaim := { program := "ytppnicpbncfhnaa", sum := "f1acb250da0b9b4f27fab6d2ce0f16ee189755e2e5bbe682876e034111160e66", func := "tether/tetherlaw01.WireNil", spec := "wireNil", inPlace := ["internal/abi.NoEscape"], recurses := true, apart := false, narrowed := true }
def WireNilUptoSaid : Prop := wireNilUptoRow.holds Try.pinned (OpenSpec.upto wireNilSpec)

/-- 'tetherlaw02.FrameReads', WHERE WHAT IT READS IS OF BULK AT MOST 1048576: true; the input reads as it did. -/
def frameReadsUptoRow : OpenClaim := { program := "ytppnicpbncfhnaa", sum := "f1acb250da0b9b4f27fab6d2ce0f16ee189755e2e5bbe682876e034111160e66", func := "tether/tetherlaw02.FrameReads", spec := "frameReads", inPlace := ["internal/abi.NoEscape"], recurses := true, apart := false, narrowed := true }
def FrameReadsUptoSaid : Prop := frameReadsUptoRow.holds Try.pinned (OpenSpec.upto frameReadsSpec)

/-- 'tetherlaw01.WireJoins', WHERE WHAT IT READS IS OF BULK AT MOST 1048576: true; the input reads as it did. -/
def wireJoinsUptoRow : OpenClaim := { program := "ytppnicpbncfhnaa", sum := "f1acb250da0b9b4f27fab6d2ce0f16ee189755e2e5bbe682876e034111160e66", func := "tether/tetherlaw01.WireJoins", spec := "wireJoins", inPlace := ["internal/abi.NoEscape", "internal/bytealg.MakeNoZero"], apart := false, narrowed := true }
def WireJoinsUptoSaid : Prop := wireJoinsUptoRow.holds Try.pinned (OpenSpec.upto wireJoinsSpec)

/-- 'tetherlaw02.FramePacks', WHERE WHAT IT READS IS OF BULK AT MOST 1048576: true; the input reads as it did. -/
def framePacksUptoRow : OpenClaim := { program := "ytppnicpbncfhnaa", sum := "f1acb250da0b9b4f27fab6d2ce0f16ee189755e2e5bbe682876e034111160e66", func := "tether/tetherlaw02.FramePacks", spec := "framePacks", inPlace := ["internal/abi.NoEscape"], recurses := true, apart := false, narrowed := true }
def FramePacksUptoSaid : Prop := framePacksUptoRow.holds Try.pinned (OpenSpec.upto framePacksSpec)

/-- 'tetherlaw02.FrameScans', WHERE WHAT IT READS IS OF BULK AT MOST 1048576: true; the input reads as it did. -/
def frameScansUptoRow : OpenClaim := { program := "ytppnicpbncfhnaa", sum := "f1acb250da0b9b4f27fab6d2ce0f16ee189755e2e5bbe682876e034111160e66", func := "tether/tetherlaw02.FrameScans", spec := "frameScans", inPlace := ["internal/abi.NoEscape"], recurses := true, apart := false, narrowed := true }
def FrameScansUptoSaid : Prop := frameScansUptoRow.holds Try.pinned (OpenSpec.upto frameScansSpec)

/-- 'tetherlaw02.FrameBack', WHERE WHAT IT READS IS OF BULK AT MOST 1048576: true; the input reads as it did. -/
def frameBackUptoRow : OpenClaim := { program := "ytppnicpbncfhnaa", sum := "f1acb250da0b9b4f27fab6d2ce0f16ee189755e2e5bbe682876e034111160e66", func := "tether/tetherlaw02.FrameBack", spec := "frameBack", inPlace := ["internal/abi.NoEscape"], apart := false, narrowed := true }
def FrameBackUptoSaid : Prop := frameBackUptoRow.holds Try.pinned (OpenSpec.upto frameBackSpec)

/-- 'tetherlaw02.FrameTurns', WHERE WHAT IT READS IS OF BULK AT MOST 1048576: true; the input reads as it did. -/
def frameTurnsUptoRow : OpenClaim := { program := "ytppnicpbncfhnaa", sum := "f1acb250da0b9b4f27fab6d2ce0f16ee189755e2e5bbe682876e034111160e66", func := "tether/tetherlaw02.FrameTurns", spec := "frameTurns", inPlace := ["internal/abi.NoEscape"], apart := false, narrowed := true }
def FrameTurnsUptoSaid : Prop := frameTurnsUptoRow.holds Try.pinned (OpenSpec.upto frameTurnsSpec)

/-- 'tetherlaw24.ConfigBytes', WHERE WHAT IT READS IS OF BULK AT MOST 1048576: true; the input reads as it did. -/
def configBytesUptoRow : OpenClaim := { program := "ytppnicpbncfhnaa", sum := "f1acb250da0b9b4f27fab6d2ce0f16ee189755e2e5bbe682876e034111160e66", func := "tether/tetherlaw24.ConfigBytes", spec := "configBytes", inPlace := ["internal/abi.NoEscape"], recurses := true, apart := false, narrowed := true }
def ConfigBytesUptoSaid : Prop := configBytesUptoRow.holds Try.pinned (OpenSpec.upto configBytesSpec)

/-- 'tetherlaw01.WireBack', WHERE WHAT IT READS IS OF BULK AT MOST 1048576: true; the input reads as it did. -/
def wireBackUptoRow : OpenClaim := { program := "ytppnicpbncfhnaa", sum := "f1acb250da0b9b4f27fab6d2ce0f16ee189755e2e5bbe682876e034111160e66", func := "tether/tetherlaw01.WireBack", spec := "wireBack", inPlace := ["internal/abi.NoEscape", "internal/bytealg.MakeNoZero"], apart := false, narrowed := true }
def WireBackUptoSaid : Prop := wireBackUptoRow.holds Try.pinned (OpenSpec.upto wireBackSpec)

/-- 'tetherlaw09.DeltaApplies', WHERE WHAT IT READS IS OF BULK AT MOST 1048576: true; the input reads as it did. -/
def deltaAppliesUptoRow : OpenClaim := { program := "ytppnicpbncfhnaa", sum := "f1acb250da0b9b4f27fab6d2ce0f16ee189755e2e5bbe682876e034111160e66", func := "tether/tetherlaw09.DeltaApplies", spec := "deltaApplies", inPlace := ["internal/abi.NoEscape"], apart := false, narrowed := true }
def DeltaAppliesUptoSaid : Prop := deltaAppliesUptoRow.holds Try.pinned (OpenSpec.upto deltaAppliesSpec)

/-- 'tetherlaw09.DeltaBack', WHERE WHAT IT READS IS OF BULK AT MOST 1048576: true; the input reads as it did. -/
def deltaBackUptoRow : OpenClaim := { program := "ytppnicpbncfhnaa", sum := "f1acb250da0b9b4f27fab6d2ce0f16ee189755e2e5bbe682876e034111160e66", func := "tether/tetherlaw09.DeltaBack", spec := "deltaBack", inPlace := ["internal/abi.NoEscape"], apart := false, narrowed := true }
def DeltaBackUptoSaid : Prop := deltaBackUptoRow.holds Try.pinned (OpenSpec.upto deltaBackSpec)

/-- 'tetherlaw09.DeltaSmall', WHERE WHAT IT READS IS OF BULK AT MOST 1048576: true; the input reads as it did. -/
def deltaSmallUptoRow : OpenClaim := { program := "ytppnicpbncfhnaa", sum := "f1acb250da0b9b4f27fab6d2ce0f16ee189755e2e5bbe682876e034111160e66", func := "tether/tetherlaw09.DeltaSmall", spec := "deltaSmall", inPlace := ["internal/abi.NoEscape"], apart := false, narrowed := true }
def DeltaSmallUptoSaid : Prop := deltaSmallUptoRow.holds Try.pinned (OpenSpec.upto deltaSmallSpec)

end Rows
end Go.Proofs.Ytppnicpbncfhnaa
