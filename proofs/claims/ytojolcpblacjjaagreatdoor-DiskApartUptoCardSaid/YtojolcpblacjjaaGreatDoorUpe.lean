/-
  Entries and nodes that are handed in, opened; how much they hold.
-/
import Derived.Shelf.Small.Strs
import Derived.Shelf.Strings.Search1
import Derived.Shelf.Strings.Count
import Derived.Test.YtojolcpblacjjaaGreatDoorProg
import Derived.Test.YtojolcpblacjjaaGreatDoorTrC
import Derived.Test.YtojolcpblacjjaaGreatDoorGc
import Derived.Test.YtojolcpblacjjaaGreatDoorTyY
import Derived.Test.YtojolcpblacjjaaGreatDoorGd
section
namespace Go.Proofs.YtojolcpblacjjaaGreatDoor
open Go.Shelf
def Tryz.lays217_ren : Go.Shelf.Ren := ⟨fun | 217 => 110 | 266 => 116 | n => n, fun | 9 => 9 | 5 => 5 | 3 => 3 | n => n, fun | n => n⟩
theorem Tryz.lays217 : Go.Proofs.Lays.n217 Tryz.prog Tryz.lays217_ren := {
 mixed := by kernel_rfl
 f217 := Tryz.func110.trans (congrArg some (by kernel_rfl))
 f266 := Tryz.func116.trans (congrArg some (by kernel_rfl))
 t3 := Tryz.underlying3
 a3 := Tryz.isAgg3
 z3 := Tryz.sizeOf3
 v3 := Tryz.zeroValue3
 t5 := Tryz.underlying5
 a5 := Tryz.isAgg5
 z5 := Tryz.sizeOf5
 v5 := Tryz.zeroValue5
 t9 := Tryz.underlying9
 a9 := Tryz.isAgg9
 z9 := Tryz.sizeOf9
 v9 := Tryz.zeroValue9 }
open Go.RowKit Go.Lib in theorem Tryz.stringslite_IndexByte (s : ByteArray) (c : Int) (w : World) :
  Calls Tryz.prog 110 #[.string s, .int .u8 c] w fun e w' => e = .returned (.int .i64 (Lib.indexByte s.data.toList c.toNat.toUInt8)) ∧ w' = w := Any.stringslite_IndexByte Tryz.lays217 s c w
def Tryz.lays138_ren : Go.Shelf.Ren := ⟨fun | 138 => 83 | 195 => 99 | 218 => 100 | 143 => 101 | 219 => 102 | 217 => 110 | 225 => 111 | 224 => 112 | 267 => 113 | 266 => 116 | 314 => 117 | n => n, fun | 9 => 9 | 3 => 3 | 4 => 4 | 5 => 5 | 0 => 0 | 46 => 89 | 146 => 119 | 51 => 105 | n => n, fun | 1 => 0 | n => n⟩
theorem Tryz.lays138 : Go.Proofs.Lays.n138 Tryz.prog Tryz.lays138_ren := {
 mixed := by kernel_rfl
 f138 := Tryz.func83.trans (congrArg some (by kernel_rfl))
 f143 := Tryz.func101.trans (congrArg some (by kernel_rfl))
 f195 := Tryz.func99.trans (congrArg some (by kernel_rfl))
 f217 := Tryz.func110.trans (congrArg some (by kernel_rfl))
 f218 := Tryz.func100.trans (congrArg some (by kernel_rfl))
 f219 := Tryz.func102.trans (congrArg some (by kernel_rfl))
 f224 := Tryz.func112.trans (congrArg some (by kernel_rfl))
 f225 := Tryz.func111.trans (congrArg some (by kernel_rfl))
 f266 := Tryz.func116.trans (congrArg some (by kernel_rfl))
 f267 := Tryz.func113.trans (congrArg some (by kernel_rfl))
 f314 := Tryz.func117.trans (congrArg some (by kernel_rfl))
 t0 := Tryz.underlying0
 a0 := Tryz.isAgg0
 z0 := Tryz.sizeOf0
 v0 := Tryz.zeroValue0
 t3 := Tryz.underlying3
 a3 := Tryz.isAgg3
 z3 := Tryz.sizeOf3
 v3 := Tryz.zeroValue3
 t4 := Tryz.underlying4
 a4 := Tryz.isAgg4
 z4 := Tryz.sizeOf4
 v4 := Tryz.zeroValue4
 t5 := Tryz.underlying5
 a5 := Tryz.isAgg5
 z5 := Tryz.sizeOf5
 v5 := Tryz.zeroValue5
 t9 := Tryz.underlying9
 a9 := Tryz.isAgg9
 z9 := Tryz.sizeOf9
 v9 := Tryz.zeroValue9
 t46 := Tryz.underlying89
 a46 := Tryz.isAgg89
 z46 := Tryz.sizeOf89
 v46 := Tryz.zeroValue89
 t51 := Tryz.underlying105
 a51 := Tryz.isAgg105
 z51 := Tryz.sizeOf105
 v51 := Tryz.zeroValue105
 t146 := Tryz.underlying119
 a146 := Tryz.isAgg119
 z146 := Tryz.sizeOf119
 v146 := Tryz.zeroValue119
 g1 := by kernel_rfl }
open Go.RowKit Go.Lib in theorem Tryz.strings_Count_one (s : ByteArray) (c : UInt8) (w : World) :
  Calls Tryz.prog 83 #[.string s, .string ⟨#[c]⟩] w fun e w' => e = .returned (.int .i64 (Lib.countByte s.data.toList c)) ∧ w' = w := Any.strings_Count_one Tryz.lays138 s c w
end Go.Proofs.YtojolcpblacjjaaGreatDoor
end
section
set_option linter.unusedSimpArgs false
set_option linter.unusedVariables false
set_option maxRecDepth 20000
namespace Go.Tr
open Go Go.Eng Go.RowKit
end Go.Tr
namespace Go.Proofs.YtojolcpblacjjaaGreatDoor
open Go Go.Eng Go.RowKit Go.Tr
end Go.Proofs.YtojolcpblacjjaaGreatDoor
end
section
set_option linter.unusedVariables false
set_option linter.unusedSimpArgs false
namespace Go.Proofs.YtojolcpblacjjaaGreatDoor
open Go Go.Eng Go.RowKit Go.ChangeShapes Go.WideShapes Go.ChangeAt Go.Tr
end Go.Proofs.YtojolcpblacjjaaGreatDoor
end
