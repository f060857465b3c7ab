/-
  DERIVED: THE SHELF's CONTRACTS AT THIS DUMP, IN PLAIN WORDS (tools/lay-plain.mjs out of 'TrydShelf.lean', which tools/lay-shelf.mjs wrote): THE SAME DECLARATIONS UNDER THE SAME NAMES: 'import', 'namespace', 'open', 'def', 'theorem' AND NOTHING ELSE: no command of the shelf's: FOR A HAND-IN. Each laying: the table of numbers ('.._ren') and one theorem, a field a fact of the dump's own or the kernel's comparison; each contract: ONE APPLICATION.
-/
import Derived.Shelf.Small.Strs
import Derived.Shelf.Strings.Search1
import Derived.Shelf.Strings.Count
import Derived.Test.YtojolcpblacjjaaDoorProg
namespace Go.Proofs.YtojolcpblacjjaaDoor
open Go.Shelf
def Tryd.lays217_ren : Go.Shelf.Ren := ⟨fun | 217 => 78 | 266 => 84 | n => n, fun | 9 => 9 | 5 => 5 | 3 => 3 | n => n, fun | n => n⟩
theorem Tryd.lays217 : Go.Proofs.Lays.n217 Tryd.prog Tryd.lays217_ren := {
 mixed := by kernel_rfl
 f217 := Tryd.func78.trans (congrArg some (by kernel_rfl))
 f266 := Tryd.func84.trans (congrArg some (by kernel_rfl))
 t3 := Tryd.underlying3
 a3 := Tryd.isAgg3
 z3 := Tryd.sizeOf3
 v3 := Tryd.zeroValue3
 t5 := Tryd.underlying5
 a5 := Tryd.isAgg5
 z5 := Tryd.sizeOf5
 v5 := Tryd.zeroValue5
 t9 := Tryd.underlying9
 a9 := Tryd.isAgg9
 z9 := Tryd.sizeOf9
 v9 := Tryd.zeroValue9 }
open Go.RowKit Go.Lib in theorem Tryd.stringslite_IndexByte (s : ByteArray) (c : Int) (w : World) :
  Calls Tryd.prog 78 #[.string s, .int .u8 c] w fun e w' => e = .returned (.int .i64 (Lib.indexByte s.data.toList c.toNat.toUInt8)) ∧ w' = w := Any.stringslite_IndexByte Tryd.lays217 s c w
def Tryd.lays138_ren : Go.Shelf.Ren := ⟨fun | 138 => 50 | 195 => 66 | 218 => 67 | 143 => 68 | 219 => 70 | 217 => 78 | 225 => 79 | 224 => 80 | 267 => 81 | 266 => 84 | 314 => 85 | n => n, fun | 9 => 9 | 3 => 3 | 4 => 4 | 5 => 5 | 0 => 0 | 46 => 65 | 146 => 97 | 51 => 82 | n => n, fun | 1 => 0 | n => n⟩
theorem Tryd.lays138 : Go.Proofs.Lays.n138 Tryd.prog Tryd.lays138_ren := {
 mixed := by kernel_rfl
 f138 := Tryd.func50.trans (congrArg some (by kernel_rfl))
 f143 := Tryd.func68.trans (congrArg some (by kernel_rfl))
 f195 := Tryd.func66.trans (congrArg some (by kernel_rfl))
 f217 := Tryd.func78.trans (congrArg some (by kernel_rfl))
 f218 := Tryd.func67.trans (congrArg some (by kernel_rfl))
 f219 := Tryd.func70.trans (congrArg some (by kernel_rfl))
 f224 := Tryd.func80.trans (congrArg some (by kernel_rfl))
 f225 := Tryd.func79.trans (congrArg some (by kernel_rfl))
 f266 := Tryd.func84.trans (congrArg some (by kernel_rfl))
 f267 := Tryd.func81.trans (congrArg some (by kernel_rfl))
 f314 := Tryd.func85.trans (congrArg some (by kernel_rfl))
 t0 := Tryd.underlying0
 a0 := Tryd.isAgg0
 z0 := Tryd.sizeOf0
 v0 := Tryd.zeroValue0
 t3 := Tryd.underlying3
 a3 := Tryd.isAgg3
 z3 := Tryd.sizeOf3
 v3 := Tryd.zeroValue3
 t4 := Tryd.underlying4
 a4 := Tryd.isAgg4
 z4 := Tryd.sizeOf4
 v4 := Tryd.zeroValue4
 t5 := Tryd.underlying5
 a5 := Tryd.isAgg5
 z5 := Tryd.sizeOf5
 v5 := Tryd.zeroValue5
 t9 := Tryd.underlying9
 a9 := Tryd.isAgg9
 z9 := Tryd.sizeOf9
 v9 := Tryd.zeroValue9
 t46 := Tryd.underlying65
 a46 := Tryd.isAgg65
 z46 := Tryd.sizeOf65
 v46 := Tryd.zeroValue65
 t51 := Tryd.underlying82
 a51 := Tryd.isAgg82
 z51 := Tryd.sizeOf82
 v51 := Tryd.zeroValue82
 t146 := Tryd.underlying97
 a146 := Tryd.isAgg97
 z146 := Tryd.sizeOf97
 v146 := Tryd.zeroValue97
 g1 := by kernel_rfl }
open Go.RowKit Go.Lib in theorem Tryd.strings_Count_one (s : ByteArray) (c : UInt8) (w : World) :
  Calls Tryd.prog 50 #[.string s, .string ⟨#[c]⟩] w fun e w' => e = .returned (.int .i64 (Lib.countByte s.data.toList c)) ∧ w' = w := Any.strings_Count_one Tryd.lays138 s c w
end Go.Proofs.YtojolcpblacjjaaDoor
