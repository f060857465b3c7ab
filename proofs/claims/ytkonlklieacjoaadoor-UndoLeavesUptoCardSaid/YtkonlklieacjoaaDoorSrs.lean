/-
  slices.Sort of strings, laid by the kit's lay-plain.
-/
import Derived.Shelf.Sort.Plain
import Derived.Shelf.Slices.In.SortNone
import Derived.Test.YtkonlklieacjoaaDoorProg
namespace Go.Proofs.YtkonlklieacjoaaDoor
open Go.Shelf
def Tryd.sortS_ren : Go.Shelf.Ren := ⟨fun | 190 => 73 | 125 => 92 | 258 => 95 | 128 => 116 | 129 => 117 | 302 => 119 | 303 => 120 | 304 => 121 | 305 => 122 | 306 => 123 | 307 => 124 | 308 => 125 | 309 => 126 | 310 => 127 | 333 => 143 | 329 => 139 | 330 => 140 | 334 => 144 | 335 => 145 | 336 => 146 | 344 => 154 | n => n, fun | 31 => 43 | 9 => 9 | 3 => 3 | 46 => 115 | 0 => 0 | 51 => 139 | 53 => 141 | 4 => 4 | 183 => 133 | 182 => 132 | 131 => 71 | 5 => 5 | 218 => 155 | 222 => 159 | 228 => 166 | 229 => 167 | n => n, fun | n => n⟩
theorem Tryd.sortS : Go.Proofs.Lays.n190 Tryd.prog Tryd.sortS_ren := {
 mixed := by kernel_rfl
 f125 := Tryd.func92.trans (congrArg some (by kernel_rfl))
 f128 := Tryd.func116.trans (congrArg some (by kernel_rfl))
 f129 := Tryd.func117.trans (congrArg some (by kernel_rfl))
 f190 := Tryd.func73.trans (congrArg some (by kernel_rfl))
 f258 := Tryd.func95.trans (congrArg some (by kernel_rfl))
 f302 := Tryd.func119.trans (congrArg some (by kernel_rfl))
 f303 := Tryd.func120.trans (congrArg some (by kernel_rfl))
 f304 := Tryd.func121.trans (congrArg some (by kernel_rfl))
 f305 := Tryd.func122.trans (congrArg some (by kernel_rfl))
 f306 := Tryd.func123.trans (congrArg some (by kernel_rfl))
 f307 := Tryd.func124.trans (congrArg some (by kernel_rfl))
 f308 := Tryd.func125.trans (congrArg some (by kernel_rfl))
 f309 := Tryd.func126.trans (congrArg some (by kernel_rfl))
 f310 := Tryd.func127.trans (congrArg some (by kernel_rfl))
 f329 := Tryd.func139.trans (congrArg some (by kernel_rfl))
 f330 := Tryd.func140.trans (congrArg some (by kernel_rfl))
 f333 := Tryd.func143.trans (congrArg some (by kernel_rfl))
 f334 := Tryd.func144.trans (congrArg some (by kernel_rfl))
 f335 := Tryd.func145.trans (congrArg some (by kernel_rfl))
 f336 := Tryd.func146.trans (congrArg some (by kernel_rfl))
 f344 := Tryd.func154.trans (congrArg some (by kernel_rfl))
 t0 := Tryd.underlying0
 a0 := Tryd.isAgg0
 z0 := Tryd.sizeOf0
 v0 := Tryd.zeroValue0
 t3 := Tryd.underlying3
 a3 := Tryd.isAgg3
 z3 := Tryd.sizeOf3
 v3 := Tryd.zeroValue3
 t4 := Tryd.underlying4
 a4 := Tryd.isAgg4
 z4 := Tryd.sizeOf4
 v4 := Tryd.zeroValue4
 t5 := Tryd.underlying5
 a5 := Tryd.isAgg5
 z5 := Tryd.sizeOf5
 v5 := Tryd.zeroValue5
 t9 := Tryd.underlying9
 a9 := Tryd.isAgg9
 z9 := Tryd.sizeOf9
 v9 := Tryd.zeroValue9
 t31 := Tryd.underlying43
 a31 := Tryd.isAgg43
 z31 := Tryd.sizeOf43
 v31 := Tryd.zeroValue43
 t46 := Tryd.underlying115
 a46 := Tryd.isAgg115
 z46 := Tryd.sizeOf115
 v46 := Tryd.zeroValue115
 t51 := Tryd.underlying139
 a51 := Tryd.isAgg139
 z51 := Tryd.sizeOf139
 v51 := Tryd.zeroValue139
 t53 := Tryd.underlying141
 a53 := Tryd.isAgg141
 z53 := Tryd.sizeOf141
 v53 := Tryd.zeroValue141
 t131 := Tryd.underlying71
 a131 := Tryd.isAgg71
 z131 := Tryd.sizeOf71
 v131 := Tryd.zeroValue71
 t182 := Tryd.underlying132
 a182 := Tryd.isAgg132
 z182 := Tryd.sizeOf132
 v182 := Tryd.zeroValue132
 t183 := Tryd.underlying133
 a183 := Tryd.isAgg133
 z183 := Tryd.sizeOf133
 v183 := Tryd.zeroValue133
 t218 := Tryd.underlying155
 a218 := Tryd.isAgg155
 z218 := Tryd.sizeOf155
 v218 := Tryd.zeroValue155
 t222 := Tryd.underlying159
 a222 := Tryd.isAgg159
 z222 := Tryd.sizeOf159
 v222 := Tryd.zeroValue159
 t228 := Tryd.underlying166
 a228 := Tryd.isAgg166
 z228 := Tryd.sizeOf166
 v228 := Tryd.zeroValue166
 t229 := Tryd.underlying167
 a229 := Tryd.isAgg167
 z229 := Tryd.sizeOf167
 v229 := Tryd.zeroValue167 }
end Go.Proofs.YtkonlklieacjoaaDoor
