/-
  slices.SortFunc of entries, laid by the kit's lay-plain.
-/
import Derived.Shelf.SlSortCmp.WholeK
import Derived.Shelf.SlSortCmp.NoneTotal
import Derived.Test.YtkonlklieacjoaaDoorProg
namespace Go.Proofs.YtkonlklieacjoaaDoor
open Go.Shelf
def Tryd.sortE_ren : Go.Shelf.Ren := ⟨fun | 6 => 67 | 15 => 92 | 14 => 91 | 28 => 116 | 29 => 117 | 20 => 108 | 21 => 109 | 22 => 110 | 23 => 111 | 24 => 112 | 25 => 113 | 26 => 114 | 27 => 115 | 46 => 138 | 47 => 139 | 48 => 140 | 49 => 141 | 50 => 142 | 57 => 153 | n => n, fun | 22 => 22 | 24 => 68 | 25 => 85 | 3 => 3 | 39 => 115 | 0 => 0 | 53 => 139 | 55 => 141 | 4 => 4 | 46 => 133 | 45 => 132 | 50 => 71 | 5 => 5 | 9 => 9 | 66 => 155 | 70 => 159 | 76 => 166 | 77 => 167 | n => n, fun | n => n⟩
theorem Tryd.sortE : Go.Proofs.SlLaysF0.n6 Tryd.prog Tryd.sortE_ren := {
 mixed := by kernel_rfl
 f6 := ⟨Tryd.f67.name, by decide, Tryd.func67.trans (congrArg some (by kernel_rfl))⟩
 f14 := ⟨Tryd.f91.name, by decide, Tryd.func91.trans (congrArg some (by kernel_rfl))⟩
 f15 := Tryd.func92.trans (congrArg some (by kernel_rfl))
 f20 := ⟨Tryd.f108.name, by decide, Tryd.func108.trans (congrArg some (by kernel_rfl))⟩
 f21 := ⟨Tryd.f109.name, by decide, Tryd.func109.trans (congrArg some (by kernel_rfl))⟩
 f22 := ⟨Tryd.f110.name, by decide, Tryd.func110.trans (congrArg some (by kernel_rfl))⟩
 f23 := ⟨Tryd.f111.name, by decide, Tryd.func111.trans (congrArg some (by kernel_rfl))⟩
 f24 := ⟨Tryd.f112.name, by decide, Tryd.func112.trans (congrArg some (by kernel_rfl))⟩
 f25 := ⟨Tryd.f113.name, by decide, Tryd.func113.trans (congrArg some (by kernel_rfl))⟩
 f26 := ⟨Tryd.f114.name, by decide, Tryd.func114.trans (congrArg some (by kernel_rfl))⟩
 f27 := ⟨Tryd.f115.name, by decide, Tryd.func115.trans (congrArg some (by kernel_rfl))⟩
 f28 := Tryd.func116.trans (congrArg some (by kernel_rfl))
 f29 := Tryd.func117.trans (congrArg some (by kernel_rfl))
 f46 := ⟨Tryd.f138.name, by decide, Tryd.func138.trans (congrArg some (by kernel_rfl))⟩
 f47 := Tryd.func139.trans (congrArg some (by kernel_rfl))
 f48 := Tryd.func140.trans (congrArg some (by kernel_rfl))
 f49 := ⟨Tryd.f141.name, by decide, Tryd.func141.trans (congrArg some (by kernel_rfl))⟩
 f50 := ⟨Tryd.f142.name, by decide, Tryd.func142.trans (congrArg some (by kernel_rfl))⟩
 f57 := ⟨Tryd.f153.name, by decide, Tryd.func153.trans (congrArg some (by kernel_rfl))⟩
 t0 := Tryd.underlying0
 a0 := Tryd.isAgg0
 z0 := Tryd.sizeOf0
 v0 := Tryd.zeroValue0
 t3 := Tryd.underlying3
 a3 := Tryd.isAgg3
 z3 := Tryd.sizeOf3
 v3 := Tryd.zeroValue3
 t4 := Tryd.underlying4
 a4 := Tryd.isAgg4
 z4 := Tryd.sizeOf4
 v4 := Tryd.zeroValue4
 t5 := Tryd.underlying5
 a5 := Tryd.isAgg5
 z5 := Tryd.sizeOf5
 v5 := Tryd.zeroValue5
 t9 := Tryd.underlying9
 a9 := Tryd.isAgg9
 z9 := Tryd.sizeOf9
 v9 := Tryd.zeroValue9
 t22 := Tryd.underlying22
 a22 := Tryd.isAgg22
 z22 := Tryd.sizeOf22
 v22 := Tryd.zeroValue22
 t25 := Tryd.underlying85
 a25 := Tryd.isAgg85
 z25 := Tryd.sizeOf85
 v25 := Tryd.zeroValue85
 t39 := Tryd.underlying115
 a39 := Tryd.isAgg115
 z39 := Tryd.sizeOf115
 v39 := Tryd.zeroValue115
 t45 := Tryd.underlying132
 a45 := Tryd.isAgg132
 z45 := Tryd.sizeOf132
 v45 := Tryd.zeroValue132
 t46 := Tryd.underlying133
 a46 := Tryd.isAgg133
 z46 := Tryd.sizeOf133
 v46 := Tryd.zeroValue133
 t50 := Tryd.underlying71
 a50 := Tryd.isAgg71
 z50 := Tryd.sizeOf71
 v50 := Tryd.zeroValue71
 t53 := Tryd.underlying139
 a53 := Tryd.isAgg139
 z53 := Tryd.sizeOf139
 v53 := Tryd.zeroValue139
 t55 := Tryd.underlying141
 a55 := Tryd.isAgg141
 z55 := Tryd.sizeOf141
 v55 := Tryd.zeroValue141
 t66 := Tryd.underlying155
 a66 := Tryd.isAgg155
 z66 := Tryd.sizeOf155
 v66 := Tryd.zeroValue155
 t70 := Tryd.underlying159
 a70 := Tryd.isAgg159
 z70 := Tryd.sizeOf159
 v70 := Tryd.zeroValue159
 t76 := Tryd.underlying166
 a76 := Tryd.isAgg166
 z76 := Tryd.sizeOf166
 v76 := Tryd.zeroValue166
 t77 := Tryd.underlying167
 a77 := Tryd.isAgg167
 z77 := Tryd.sizeOf167
 v77 := Tryd.zeroValue167 }
end Go.Proofs.YtkonlklieacjoaaDoor
