/-
  Facts of the types, the functions' names.
-/
import Derived.Test.YtbdomkfdkfdfgaaGreatDoorGc
import Derived.Test.YtbdomkfdkfdfgaaGreatDoorProg
namespace Go.Proofs.YtbdomkfdkfdfgaaGreatDoor
open Go Go.Eng
theorem mixed:Tryz.prog.follows .mixedOrders=true:=by kernel_rfl
theorem zS0:qQ6 Tryz.prog 167=some 3:=by kernel_rfl
theorem zWp:qQ6 Tryz.prog 41=some 3:=by kernel_rfl
theorem bb4:qRq Tryz.prog 4=true:=by kernel_rfl
theorem zSz:cF Tryz.prog 153=true:=by kernel_rfl
theorem zSy:cF Tryz.prog 167=true:=by kernel_rfl
theorem zSx:cF Tryz.prog 173=true:=by kernel_rfl
theorem zSw:cF Tryz.prog 179=true:=by kernel_rfl
theorem zSv:cF Tryz.prog 196=true:=by kernel_rfl
theorem zSu:cF Tryz.prog 219=true:=by kernel_rfl
theorem zSt:cF Tryz.prog 227=true:=by kernel_rfl
theorem zSs:cF Tryz.prog 241=true:=by kernel_rfl
theorem zSr:cF Tryz.prog 242=true:=by kernel_rfl
theorem zWn:cF Tryz.prog 28=true:=by kernel_rfl
theorem zWm:cF Tryz.prog 32=true:=by kernel_rfl
theorem zWl:cF Tryz.prog 39=true:=by kernel_rfl
theorem zWk:cF Tryz.prog 41=true:=by kernel_rfl
theorem zT2:cF Tryz.prog 47=true:=by kernel_rfl
theorem zWj:cF Tryz.prog 50=true:=by kernel_rfl
theorem zWi:cF Tryz.prog 64=true:=by kernel_rfl
theorem zT1:cF Tryz.prog 67=true:=by kernel_rfl
theorem zWh:cF Tryz.prog 71=true:=by kernel_rfl
theorem zWg:cF Tryz.prog 92=true:=by kernel_rfl
theorem zGi:qQt Tryz.prog 9 191=true:=by kernel_rfl
theorem zF6:fR Tryz.prog 153 0=some 0:=by kernel_rfl
theorem zF5:fR Tryz.prog 153 1=some 1:=by kernel_rfl
theorem zF4:fR Tryz.prog 153 2=some 2:=by kernel_rfl
theorem zF3:fR Tryz.prog 153 3=some 3:=by kernel_rfl
theorem zF2:fR Tryz.prog 173 0=some 0:=by kernel_rfl
theorem zF1:fR Tryz.prog 173 1=some 1:=by kernel_rfl
theorem zF0:fR Tryz.prog 173 2=some 2:=by kernel_rfl
theorem zFz:fR Tryz.prog 173 3=some 3:=by kernel_rfl
theorem zFy:fR Tryz.prog 173 4=some 4:=by kernel_rfl
theorem zFx:fR Tryz.prog 173 5=some 5:=by kernel_rfl
theorem zFw:fR Tryz.prog 173 6=some 6:=by kernel_rfl
theorem zFv:fR Tryz.prog 201 0=some 0:=by kernel_rfl
theorem zFu:fR Tryz.prog 201 1=some 1:=by kernel_rfl
theorem zFt:fR Tryz.prog 219 0=some 0:=by kernel_rfl
theorem zFs:fR Tryz.prog 219 1=some 1:=by kernel_rfl
theorem zFr:fR Tryz.prog 227 0=some 0:=by kernel_rfl
theorem zFq:fR Tryz.prog 227 1=some 1:=by kernel_rfl
theorem zFp:fR Tryz.prog 241 0=some 0:=by kernel_rfl
theorem zFo:fR Tryz.prog 241 1=some 1:=by kernel_rfl
theorem zM0:fR Tryz.prog 28 0=some 0:=by kernel_rfl
theorem zMz:fR Tryz.prog 28 1=some 1:=by kernel_rfl
theorem zMy:fR Tryz.prog 28 2=some 2:=by kernel_rfl
theorem zMx:fR Tryz.prog 28 3=some 3:=by kernel_rfl
theorem zMw:fR Tryz.prog 39 0=some 0:=by kernel_rfl
theorem zMv:fR Tryz.prog 39 1=some 1:=by kernel_rfl
theorem zMu:fR Tryz.prog 39 2=some 2:=by kernel_rfl
theorem zMt:fR Tryz.prog 39 3=some 3:=by kernel_rfl
theorem zMs:fR Tryz.prog 39 4=some 4:=by kernel_rfl
theorem zMr:fR Tryz.prog 39 5=some 5:=by kernel_rfl
theorem zMq:fR Tryz.prog 39 6=some 6:=by kernel_rfl
theorem qWd:fR Tryz.prog 47 0=some 0:=by kernel_rfl
theorem zMp:fR Tryz.prog 47 1=some 1:=by kernel_rfl
theorem zMo:fR Tryz.prog 50 2=some 2:=by kernel_rfl
theorem zMn:fR Tryz.prog 50 3=some 8:=by kernel_rfl
theorem zMm:fR Tryz.prog 64 1=some 1:=by kernel_rfl
theorem zMl:fR Tryz.prog 64 2=some 2:=by kernel_rfl
theorem zCl:fR Tryz.prog 67 0=some 0:=by kernel_rfl
theorem qWc:fR Tryz.prog 67 1=some 1:=by kernel_rfl
theorem zMk:fR Tryz.prog 71 0=some 0:=by kernel_rfl
theorem zMj:fR Tryz.prog 71 1=some 1:=by kernel_rfl
theorem zMi:fR Tryz.prog 92 0=some 0:=by kernel_rfl
theorem zMh:fR Tryz.prog 92 1=some 1:=by kernel_rfl
theorem zMg:fR Tryz.prog 92 2=some 2:=by kernel_rfl
theorem zMf:fR Tryz.prog 92 3=some 3:=by kernel_rfl
theorem zMd:qF9 Tryz.prog 47 0=some (0,none):=by kernel_rfl
theorem zSm:qRc Tryz.prog 109=some .u64:=by kernel_rfl
theorem zSl:qRc Tryz.prog 136=some .u32:=by kernel_rfl
theorem zSk:qRc Tryz.prog 138=some .u64:=by kernel_rfl
theorem zVq:qRc Tryz.prog 21=some .i32:=by kernel_rfl
theorem it3:qRc Tryz.prog 3=some .i64:=by kernel_rfl
theorem it5:qRc Tryz.prog 5=some .u8:=by kernel_rfl
theorem zSj:bJ Tryz.prog 149=some none:=by kernel_rfl
theorem zSi:bJ Tryz.prog 153=some (some 4):=by kernel_rfl
theorem zSh:bJ Tryz.prog 169=some none:=by kernel_rfl
theorem zSg:bJ Tryz.prog 173=some (some 7):=by kernel_rfl
theorem zSf:bJ Tryz.prog 191=some none:=by kernel_rfl
theorem zSe:bJ Tryz.prog 196=some (some 2):=by kernel_rfl
theorem zSd:bJ Tryz.prog 199=some none:=by kernel_rfl
theorem zSc:bJ Tryz.prog 219=some (some 2):=by kernel_rfl
theorem qV5:bJ Tryz.prog 22=some none:=by kernel_rfl
theorem zSb:bJ Tryz.prog 225=some none:=by kernel_rfl
theorem zSa:bJ Tryz.prog 227=some (some 2):=by kernel_rfl
theorem zR9:bJ Tryz.prog 229=some none:=by kernel_rfl
theorem zR8:bJ Tryz.prog 241=some (some 2):=by kernel_rfl
theorem zR7:bJ Tryz.prog 242=some (some 32):=by kernel_rfl
theorem zVp:bJ Tryz.prog 26=some none:=by kernel_rfl
theorem zVo:bJ Tryz.prog 28=some (some 4):=by kernel_rfl
theorem kt3:bJ Tryz.prog 3=some none:=by kernel_rfl
theorem zVn:bJ Tryz.prog 39=some (some 7):=by kernel_rfl
theorem kt4:bJ Tryz.prog 4=some none:=by kernel_rfl
theorem zVm:bJ Tryz.prog 41=some (some 3):=by kernel_rfl
theorem zPz:bJ Tryz.prog 47=some (some 2):=by kernel_rfl
theorem zVl:bJ Tryz.prog 48=some (some 6):=by kernel_rfl
theorem kt5:bJ Tryz.prog 5=some none:=by kernel_rfl
theorem zVk:bJ Tryz.prog 50=some (some 14):=by kernel_rfl
theorem zVj:bJ Tryz.prog 52=some none:=by kernel_rfl
theorem zVi:bJ Tryz.prog 64=some (some 4):=by kernel_rfl
theorem zLg:bJ Tryz.prog 67=some (some 3):=by kernel_rfl
theorem zVh:bJ Tryz.prog 68=some none:=by kernel_rfl
theorem zVg:bJ Tryz.prog 71=some (some 2):=by kernel_rfl
theorem zVf:bJ Tryz.prog 81=some none:=by kernel_rfl
theorem kt9:bJ Tryz.prog 9=some none:=by kernel_rfl
theorem zVe:bJ Tryz.prog 90=some none:=by kernel_rfl
theorem zVd:bJ Tryz.prog 92=some (some 4):=by kernel_rfl
theorem zVc:bJ Tryz.prog 96=some none:=by kernel_rfl
theorem zR6:qKi Tryz.prog 199=true:=by kernel_rfl
theorem zD8:cK Tryz.prog 153 0=some (0,1):=by kernel_rfl
theorem zD7:cK Tryz.prog 153 1=some (1,1):=by kernel_rfl
theorem zD6:cK Tryz.prog 153 2=some (2,1):=by kernel_rfl
theorem zD5:cK Tryz.prog 153 3=some (3,1):=by kernel_rfl
theorem zD4:cK Tryz.prog 167 0=some (0,1):=by kernel_rfl
theorem zD3:cK Tryz.prog 167 1=some (1,1):=by kernel_rfl
theorem zD2:cK Tryz.prog 167 2=some (2,1):=by kernel_rfl
theorem zD1:cK Tryz.prog 173 0=some (0,1):=by kernel_rfl
theorem zD0:cK Tryz.prog 173 1=some (1,1):=by kernel_rfl
theorem zDz:cK Tryz.prog 173 2=some (2,1):=by kernel_rfl
theorem zDy:cK Tryz.prog 179 0=some (0,1):=by kernel_rfl
theorem zDx:cK Tryz.prog 179 1=some (1,1):=by kernel_rfl
theorem zDw:cK Tryz.prog 179 2=some (2,1):=by kernel_rfl
theorem zDv:cK Tryz.prog 196 0=some (0,1):=by kernel_rfl
theorem zDu:cK Tryz.prog 196 1=some (1,1):=by kernel_rfl
theorem zDt:cK Tryz.prog 219 0=some (0,1):=by kernel_rfl
theorem zDs:cK Tryz.prog 219 1=some (1,1):=by kernel_rfl
theorem zDr:cK Tryz.prog 227 0=some (0,1):=by kernel_rfl
theorem zDq:cK Tryz.prog 227 1=some (1,1):=by kernel_rfl
theorem zDp:cK Tryz.prog 241 0=some (0,1):=by kernel_rfl
theorem zDo:cK Tryz.prog 241 1=some (1,1):=by kernel_rfl
theorem zDn:cK Tryz.prog 242 0=some (0,2):=by kernel_rfl
theorem zDm:cK Tryz.prog 242 1=some (2,2):=by kernel_rfl
theorem zDl:cK Tryz.prog 242 2=some (4,2):=by kernel_rfl
theorem zDk:cK Tryz.prog 242 3=some (6,2):=by kernel_rfl
theorem zDj:cK Tryz.prog 242 4=some (8,2):=by kernel_rfl
theorem zK1:cK Tryz.prog 28 0=some (0,1):=by kernel_rfl
theorem zK0:cK Tryz.prog 28 1=some (1,1):=by kernel_rfl
theorem zKz:cK Tryz.prog 28 2=some (2,1):=by kernel_rfl
theorem zKy:cK Tryz.prog 39 0=some (0,1):=by kernel_rfl
theorem zKx:cK Tryz.prog 39 1=some (1,1):=by kernel_rfl
theorem zKw:cK Tryz.prog 39 2=some (2,1):=by kernel_rfl
theorem zKv:cK Tryz.prog 41 0=some (0,1):=by kernel_rfl
theorem zKu:cK Tryz.prog 41 1=some (1,1):=by kernel_rfl
theorem zKt:cK Tryz.prog 41 2=some (2,1):=by kernel_rfl
theorem zKs:cK Tryz.prog 47 0=some (0,1):=by kernel_rfl
theorem zKr:cK Tryz.prog 47 1=some (1,1):=by kernel_rfl
theorem zKq:cK Tryz.prog 50 0=some (0,1):=by kernel_rfl
theorem zKp:cK Tryz.prog 50 1=some (1,1):=by kernel_rfl
theorem zKo:cK Tryz.prog 64 0=some (0,1):=by kernel_rfl
theorem zKn:cK Tryz.prog 64 1=some (1,1):=by kernel_rfl
theorem zKm:cK Tryz.prog 64 2=some (2,2):=by kernel_rfl
theorem zKl:cK Tryz.prog 67 0=some (0,1):=by kernel_rfl
theorem zKk:cK Tryz.prog 67 1=some (1,2):=by kernel_rfl
theorem zKj:cK Tryz.prog 71 0=some (0,1):=by kernel_rfl
theorem zKi:cK Tryz.prog 71 1=some (1,1):=by kernel_rfl
theorem zKh:cK Tryz.prog 92 0=some (0,1):=by kernel_rfl
theorem zKg:cK Tryz.prog 92 1=some (1,1):=by kernel_rfl
theorem zKf:cK Tryz.prog 92 2=some (2,1):=by kernel_rfl
theorem zR5:jU Tryz.prog 124=some (96,1,8,#[.pointer none]):=by kernel_rfl
theorem zR4:jU Tryz.prog 149=some (153,4,80,#[.bool false,.slice none 0 0,.slice none 0 0,.slice none 0 0]):=by kernel_rfl
theorem zR3:jU Tryz.prog 169=some (3,1,8,#[.int .i64 0]):=by kernel_rfl
theorem zR2:jU Tryz.prog 177=some (179,3,24,#[.int .i64 0,.int .i64 0,.int .i64 0]):=by kernel_rfl
theorem zR1:jU Tryz.prog 191=some (5,1,1,#[.int .u8 0]):=by kernel_rfl
theorem zR0:jU Tryz.prog 192=some (196,2,16,#[.int .i64 0,.int .i64 0]):=by kernel_rfl
theorem zRz:jU Tryz.prog 215=some (219,2,16,#[.int .i64 0,.int .i64 0]):=by kernel_rfl
theorem zBi:jU Tryz.prog 22=some (67,3,40,#[.string ByteArray.empty,.int .i64 0,.string ByteArray.empty]):=by kernel_rfl
theorem zRy:jU Tryz.prog 225=some (229,1,2,#[.int .i16 0]):=by kernel_rfl
theorem zRx:jU Tryz.prog 237=some (169,1,24,#[.slice none 0 0]):=by kernel_rfl
theorem zU6:jU Tryz.prog 26=some (39,7,112,#[.string ByteArray.empty,.slice none 0 0,.slice none 0 0,.string ByteArray.empty,.bool false,.int .i64 0,.string ByteArray.empty]):=by kernel_rfl
theorem zPi:jU Tryz.prog 37=some (22,1,24,#[.slice none 0 0]):=by kernel_rfl
theorem zU5:jU Tryz.prog 43=some (50,14,168,#[.string ByteArray.empty,.int .i64 0,.int .i64 0,.string ByteArray.empty,.int .i64 0,.string ByteArray.empty,.int .i64 0,.string ByteArray.empty,.int .i64 0,.string ByteArray.empty,.int .i64 0,.string ByteArray.empty,.int .i64 0,.string ByteArray.empty]):=by kernel_rfl
theorem zU4:jU Tryz.prog 52=some (64,4,48,#[.int .i64 0,.string ByteArray.empty,.int .i64 0,.string ByteArray.empty]):=by kernel_rfl
theorem zU3:jU Tryz.prog 68=some (71,2,24,#[.string ByteArray.empty,.int .i64 0]):=by kernel_rfl
theorem zU2:jU Tryz.prog 81=some (9,1,16,#[.string ByteArray.empty]):=by kernel_rfl
theorem zRw:qAn Tryz.prog 191=false:=by kernel_rfl
theorem st9:qAn Tryz.prog 9=true:=by kernel_rfl
theorem zRu:qGx Tryz.prog 179=some (3,1):=by kernel_rfl
theorem zRt:qGx Tryz.prog 196=some (2,1):=by kernel_rfl
theorem zRs:qGx Tryz.prog 239=some (256,1):=by kernel_rfl
theorem zRr:qGx Tryz.prog 242=some (16,2):=by kernel_rfl
theorem zUz:qGx Tryz.prog 41=some (3,1):=by kernel_rfl
theorem zUy:qGx Tryz.prog 48=some (3,2):=by kernel_rfl
theorem zRq:(Tryz.prog.underlying 109).isSome=true:=by kernel_rfl
theorem zRp:(Tryz.prog.underlying 136).isSome=true:=by kernel_rfl
theorem zRo:(Tryz.prog.underlying 138).isSome=true:=by kernel_rfl
theorem zRn:(Tryz.prog.underlying 199).isSome=true:=by kernel_rfl
theorem zRm:(Tryz.prog.underlying 234).isSome=true:=by kernel_rfl
theorem ui3:(Tryz.prog.underlying 3).isSome=true:=by kernel_rfl
theorem ui5:(Tryz.prog.underlying 5).isSome=true:=by kernel_rfl
theorem ui9:(Tryz.prog.underlying 9).isSome=true:=by kernel_rfl
theorem zRl:bG Tryz.prog 124=some (96,1):=by kernel_rfl
theorem zRk:bG Tryz.prog 149=some (153,4):=by kernel_rfl
theorem zRj:bG Tryz.prog 169=some (3,1):=by kernel_rfl
theorem zRi:bG Tryz.prog 177=some (179,3):=by kernel_rfl
theorem zRh:bG Tryz.prog 191=some (5,1):=by kernel_rfl
theorem zRg:bG Tryz.prog 192=some (196,2):=by kernel_rfl
theorem zRf:bG Tryz.prog 215=some (219,2):=by kernel_rfl
theorem qK3:bG Tryz.prog 22=some (67,3):=by kernel_rfl
theorem zRe:bG Tryz.prog 225=some (229,1):=by kernel_rfl
theorem zRd:bG Tryz.prog 237=some (169,1):=by kernel_rfl
theorem zUw:bG Tryz.prog 26=some (39,7):=by kernel_rfl
theorem qKh:bG Tryz.prog 37=some (22,1):=by kernel_rfl
theorem zUv:bG Tryz.prog 43=some (50,14):=by kernel_rfl
theorem zUu:bG Tryz.prog 52=some (64,4):=by kernel_rfl
theorem zUt:bG Tryz.prog 68=some (71,2):=by kernel_rfl
theorem zUs:bG Tryz.prog 81=some (9,1):=by kernel_rfl
theorem zRa:eR Tryz.prog 153=some #[.bool false,.slice none 0 0,.slice none 0 0,.slice none 0 0]:=by kernel_rfl
theorem zQ9:eR Tryz.prog 167=some #[.string ByteArray.empty,.string ByteArray.empty,.string ByteArray.empty]:=by kernel_rfl
theorem zQ8:eR Tryz.prog 173=some #[.slice none 0 0,.slice none 0 0,.slice none 0 0,.int .i64 0,.int .i64 0,.int .i64 0,.slice none 0 0]:=by kernel_rfl
theorem zQ7:eR Tryz.prog 179=some #[.int .i64 0,.int .i64 0,.int .i64 0]:=by kernel_rfl
theorem zQ6:eR Tryz.prog 196=some #[.int .i64 0,.int .i64 0]:=by kernel_rfl
theorem zQ5:eR Tryz.prog 201=some #[.pointer none,.slice none 0 0]:=by kernel_rfl
theorem zQ4:eR Tryz.prog 219=some #[.int .i64 0,.int .i64 0]:=by kernel_rfl
theorem zUq:eR Tryz.prog 22=some #[.slice none 0 0]:=by kernel_rfl
theorem zQ3:eR Tryz.prog 227=some #[.int .i64 0,.slice none 0 0]:=by kernel_rfl
theorem zQ2:eR Tryz.prog 241=some #[.int .u8 0,.int .u8 0]:=by kernel_rfl
theorem zQ1:eR Tryz.prog 242=some #[.int .u8 0,.int .u8 0,.int .u8 0,.int .u8 0,.int .u8 0,.int .u8 0,.int .u8 0,.int .u8 0,.int .u8 0,.int .u8 0,.int .u8 0,.int .u8 0,.int .u8 0,.int .u8 0,.int .u8 0,.int .u8 0,.int .u8 0,.int .u8 0,.int .u8 0,.int .u8 0,.int .u8 0,.int .u8 0,.int .u8 0,.int .u8 0,.int .u8 0,.int .u8 0,.int .u8 0,.int .u8 0,.int .u8 0,.int .u8 0,.int .u8 0,.int .u8 0]:=by kernel_rfl
theorem zUp:eR Tryz.prog 28=some #[.slice none 0 0,.slice none 0 0,.slice none 0 0,.slice none 0 0]:=by kernel_rfl
theorem zt3:eR Tryz.prog 3=some #[.int .i64 0]:=by kernel_rfl
theorem zUo:eR Tryz.prog 39=some #[.string ByteArray.empty,.slice none 0 0,.slice none 0 0,.string ByteArray.empty,.bool false,.int .i64 0,.string ByteArray.empty]:=by kernel_rfl
theorem zUn:eR Tryz.prog 41=some #[.slice none 0 0,.slice none 0 0,.slice none 0 0]:=by kernel_rfl
theorem zUm:eR Tryz.prog 47=some #[.int .i64 0,.string ByteArray.empty]:=by kernel_rfl
theorem zUl:eR Tryz.prog 50=some #[.string ByteArray.empty,.int .i64 0,.int .i64 0,.string ByteArray.empty,.int .i64 0,.string ByteArray.empty,.int .i64 0,.string ByteArray.empty,.int .i64 0,.string ByteArray.empty,.int .i64 0,.string ByteArray.empty,.int .i64 0,.string ByteArray.empty]:=by kernel_rfl
theorem zUk:eR Tryz.prog 52=some #[.slice none 0 0]:=by kernel_rfl
theorem zUj:eR Tryz.prog 64=some #[.int .i64 0,.string ByteArray.empty,.int .i64 0,.string ByteArray.empty]:=by kernel_rfl
theorem zUi:eR Tryz.prog 67=some #[.string ByteArray.empty,.int .i64 0,.string ByteArray.empty]:=by kernel_rfl
theorem zUh:eR Tryz.prog 71=some #[.string ByteArray.empty,.int .i64 0]:=by kernel_rfl
theorem zUg:eR Tryz.prog 81=some #[.slice none 0 0]:=by kernel_rfl
theorem zUf:eR Tryz.prog 90=some #[.map none]:=by kernel_rfl
theorem zUe:eR Tryz.prog 92=some #[.slice none 0 0,.slice none 0 0,.slice none 0 0,.slice none 0 0]:=by kernel_rfl
theorem cl8:aE Tryz.prog 8=true:=by kernel_rfl
theorem cl9:aE Tryz.prog 9=true:=by kernel_rfl
theorem zWe:aE Tryz.prog 10=true:=by kernel_rfl
theorem zXt:aE Tryz.prog 11=true:=by kernel_rfl
theorem zJi:aE Tryz.prog 13=true:=by kernel_rfl
theorem zXs:aE Tryz.prog 15=true:=by kernel_rfl
theorem zXr:aE Tryz.prog 16=true:=by kernel_rfl
theorem zCu:aE Tryz.prog 17=true:=by kernel_rfl
theorem zQj:aE Tryz.prog 21=true:=by kernel_rfl
theorem zV3:aE Tryz.prog 22=true:=by kernel_rfl
theorem zQi:aE Tryz.prog 23=true:=by kernel_rfl
theorem qKk:aE Tryz.prog 24=true:=by kernel_rfl
theorem zTy:aE Tryz.prog 25=true:=by kernel_rfl
theorem zV2:aE Tryz.prog 26=true:=by kernel_rfl
theorem zXq:aE Tryz.prog 27=true:=by kernel_rfl
theorem zXp:aE Tryz.prog 28=true:=by kernel_rfl
theorem zNh:aE Tryz.prog 29=true:=by kernel_rfl
theorem zXo:aE Tryz.prog 30=true:=by kernel_rfl
theorem zXn:aE Tryz.prog 31=true:=by kernel_rfl
theorem zV1:aE Tryz.prog 33=true:=by kernel_rfl
theorem zAk:aE Tryz.prog 37=true:=by kernel_rfl
theorem zCt:aE Tryz.prog 38=true:=by kernel_rfl
theorem zJh:aE Tryz.prog 39=true:=by kernel_rfl
theorem qGo:aE Tryz.prog 43=true:=by kernel_rfl
theorem zV0:aE Tryz.prog 44=true:=by kernel_rfl
theorem zXm:aE Tryz.prog 45=true:=by kernel_rfl
theorem zTx:aE Tryz.prog 46=true:=by kernel_rfl
theorem zXl:aE Tryz.prog 47=true:=by kernel_rfl
theorem zXk:aE Tryz.prog 48=true:=by kernel_rfl
theorem zAj:aE Tryz.prog 49=true:=by kernel_rfl
theorem zTw:aE Tryz.prog 50=true:=by kernel_rfl
theorem zCs:aE Tryz.prog 51=true:=by kernel_rfl
theorem qWi:aE Tryz.prog 52=true:=by kernel_rfl
theorem zXj:aE Tryz.prog 53=true:=by kernel_rfl
theorem zXi:aE Tryz.prog 54=true:=by kernel_rfl
theorem zXh:aE Tryz.prog 58=true:=by kernel_rfl
theorem zXg:aE Tryz.prog 60=true:=by kernel_rfl
theorem zXf:aE Tryz.prog 61=true:=by kernel_rfl
theorem zTv:aE Tryz.prog 62=true:=by kernel_rfl
theorem zVz:aE Tryz.prog 65=true:=by kernel_rfl
theorem qRm:aE Tryz.prog 66=true:=by kernel_rfl
theorem zCr:aE Tryz.prog 67=true:=by kernel_rfl
theorem zTu:aE Tryz.prog 68=true:=by kernel_rfl
theorem zXe:aE Tryz.prog 69=true:=by kernel_rfl
theorem zXd:aE Tryz.prog 70=true:=by kernel_rfl
theorem zNg:aE Tryz.prog 72=true:=by kernel_rfl
theorem zXc:aE Tryz.prog 73=true:=by kernel_rfl
theorem zXb:aE Tryz.prog 74=true:=by kernel_rfl
theorem zXa:aE Tryz.prog 75=true:=by kernel_rfl
theorem zW9:aE Tryz.prog 76=true:=by kernel_rfl
theorem zW8:aE Tryz.prog 77=true:=by kernel_rfl
theorem zW7:aE Tryz.prog 78=true:=by kernel_rfl
theorem zW6:aE Tryz.prog 79=true:=by kernel_rfl
theorem zTt:aE Tryz.prog 80=true:=by kernel_rfl
theorem zW5:aE Tryz.prog 94=true:=by kernel_rfl
theorem zTs:aE Tryz.prog 95=true:=by kernel_rfl
theorem zW4:aE Tryz.prog 96=true:=by kernel_rfl
theorem zW3:aE Tryz.prog 97=true:=by kernel_rfl
theorem zW2:aE Tryz.prog 98=true:=by kernel_rfl
theorem zW1:aE Tryz.prog 99=true:=by kernel_rfl
theorem zWd:aE Tryz.prog 102=true:=by kernel_rfl
theorem zWc:aE Tryz.prog 103=true:=by kernel_rfl
theorem zWb:aE Tryz.prog 104=true:=by kernel_rfl
theorem qU9:aE Tryz.prog 107=true:=by kernel_rfl
theorem zWa:aE Tryz.prog 108=true:=by kernel_rfl
theorem zV9:aE Tryz.prog 110=true:=by kernel_rfl
theorem zV8:aE Tryz.prog 126=true:=by kernel_rfl
theorem zV7:aE Tryz.prog 127=true:=by kernel_rfl
theorem zNj:aE Tryz.prog 129=true:=by kernel_rfl
theorem zNi:aE Tryz.prog 130=true:=by kernel_rfl
theorem zV6:aE Tryz.prog 146=true:=by kernel_rfl
theorem zV5:aE Tryz.prog 147=true:=by kernel_rfl
theorem zV4:aE Tryz.prog 149=true:=by kernel_rfl
attribute [push_cast] qQh qBw wX qGb qGa qBv qAr qAs qB2 xC xH tL sP rY sF sD sC sN wL rX lD sM sE sG sJ sK sL sB rZ qZ qY qT qU qV qW qX oY oU pA oZ oX oW mL oV pB xA wZ rJ rK rG nD nC nB iX iY oS wE wD kZ mZ vU rL vV vT vS vW rM qCh vY qFc qG9 qXg qFe qBa rP qBb qA9 qA8 qA6 qL7 rQ qFf qFd qA5 qBd qL8 qBc vX qA7 qGe qBy qB0 wY qBz qQl qGf qQk qGc qBx qGd qQj wA rT wC wB tB sZ qMk qFj qBe qFk qBk wR wQ qFr wM wP qBl qFs sR wS qBm sQ wN qK2 qEm qK1 qEl qAq
attribute [push_cast] List.take_succ_cons List.take_zero List.drop_succ_cons List.drop_zero true_and and_true Option.isSome_some List.getElem?_cons_zero List.getElem?_cons_succ List.length_cons List.length_nil cond_true cond_false Int.toNat_natCast Nat.mul_one Nat.add_zero Nat.zero_add Addr.add_lit bne_self_eq_false beq_self_eq_true Bool.not_true Bool.not_false List.size_toArray Array.getD_eq_getD_getElem? List.getElem?_toArray Option.getD_some decide_true decide_false eq_self Bool.true_beq Bool.false_beq List.getD_cons_zero List.getD_cons_succ List.map_cons List.map_nil List.set_cons_zero List.set_cons_succ List.replicate_zero List.toList_toArray List.all_toArray List.all_cons List.all_nil Bool.and_self Bool.and_true Bool.true_and Bool.and_false Bool.false_and List.length_map List.length_append List.length_replicate List.length_set List.cons_append List.nil_append qU8 Option.isSome_some Option.isSome_none beq_true beq_false Bool.not_false Option.map_some Bool.true_or Bool.false_or Bool.or_true Bool.or_false Bool.false_xor Bool.true_xor and_self beq_self_eq_true qQb List.flatMap_cons List.flatMap_nil List.append_nil
attribute [push_cast] zEl zS zM zX zU zFb qT3 qNq qY8 qY7 qT2 zLe qS8 qX8 qX7 qX6 qX9 qYa qX5 zEm qS9 qPh qPi zLv qT7 qJs qT5 qF0 qNw qNx qT6 qNv qNs qT8 qNr qN1 qZc qN0 qJr qNt qZa qZd qNz qZb qY9 qUa qZj qZg qJ2 qP0 qPz qP1 qP2 qZh qZi qPq qPr qPp qPs qPv qPx qPw qPy zFe qPd qUf qPf qPe zDh qUm qPt qSy qUb zE3 cM mB mA qSq qMj qZl qZm qZn qPu qZo qUg qPg qUh qUi qUj qPj qUl qPl qUk qPk qPb qJw qJx qPm qPn qUe qPa qPc qJu qJv qJy qJz qUv zFl qZs qMe qJj qT1 qNp qUu qP7 qY2 qTv qP4 zAq qVh qTw qNo zLy qP5 qP6 qJ6 qJ7 qZk qMq qMs qMr qJ8 qSz qS1 qS0 zGo zEh zEi qSx qJ9 qZu qZx qZv qZw qS7 qM5 zL9 zFi zFj qUp qUq qUr qUs qUt qQx qKe zFk qZr zGn qSt zVt zL3 zSn zL2 zL4 zFa qY6 zMe qZ0 zLw qYy qYx qYw zVv zM5 zEe qN5 qXt qJt zEc qN3 qSs qF1 zEd qN4 qN9 qN8 qN7 qN6 qR2 dX fM qW5 qW6 fN dC cD bQ aY aZ aT bV cJ bW cY vB pN bD lJ jD cE qYt jE aX kG gL bC bB bP bN lG nJ lK lF jC jB jF jA oL oM oN lV lW lX cX qZ9 zRv zGp qSh qLy lZ jG gM iV gJ qWs qR1 zFh zFg qZp zFf zLz qY5 zE8 qTz zL0 zE9 qTp qJq qTn qFu qNj qNk qTo qNi qNg qTr qNl qYv zE1 qTs qNh qTt qNm qYu qTq qNf qJp qXm qXn qXp qXr qMg qXs qMh qMi qJk qSr qJl qJa qE5 qLv qXo qYq qTl qYp qTm zEy qYn zE6 qTy qY4 zE7 qNc qTk qNd zEx qYl qR8 qH8 qEy qLm qLj qH7 qLh qH5 qLn qLo qEt qAu qEs qEr qAi qDg qDh qEu qLi qEv qDf qDe qDc qH6 qDi rD qDd qEw qLq qLp qSn qMc qL9 qXj qMa qMb qYz qJn qMw qFa qJc zE4 qTx qY3 zE5 qNa qTj qNb zEw qYk qTc qTd qL1 qFb qLz qDj qJf qJg qL0 qJe qJb qL2 qJh qSk qXf qL3 qJd qSj qSi qVg qQ1 qNu qJ1 qT9 qUn qZq qP3 qUo qJ3 qEx qAv qNy zSo qJ4
 qXw qSv zJ5 zEu qYi qTa zEp zEr zEq zEt zGe zF8 qZ3 qTb zEs zLp zLq qRr zFm qSu zGd zGf qUw zF7 zF9 qZ2 qU5 qQq zC8 qWr zC9 qQu ltT ltF leT leF eqT eqF wW qDo qK7 qRs
attribute [push_cast] zS0 zWp bb4 zSz zSy zSx zSw zSv zSu zSt zSs zSr zWn zWm zWl zWk zT2 zWj zWi zT1 zWh zWg zGi zF6 zF5 zF4 zF3 zF2 zF1 zF0 zFz zFy zFx zFw zFv zFu zFt zFs zFr zFq zFp zFo zM0 zMz zMy zMx zMw zMv zMu zMt zMs zMr zMq qWd zMp zMo zMn zMm zMl zCl qWc zMk zMj zMi zMh zMg zMf zMd zSm zSl zSk zVq it3 it5 zSj zSi zSh zSg zSf zSe zSd zSc qV5 zSb zSa zR9 zR8 zR7 zVp zVo kt3 zVn kt4 zVm zPz zVl kt5 zVk zVj zVi zLg zVh zVg zVf kt9 zVe zVd zVc zR6 zD8 zD7 zD6 zD5 zD4 zD3 zD2 zD1 zD0 zDz zDy zDx zDw zDv zDu zDt zDs zDr zDq zDp zDo zDn zDm zDl zDk zDj zK1 zK0 zKz zKy zKx zKw zKv zKu zKt zKs zKr zKq zKp zKo zKn zKm zKl zKk zKj zKi zKh zKg zKf zR5 zR4 zR3 zR2 zR1 zR0 zRz zBi zRy zRx zU6 zPi zU5 zU4 zU3 zU2 zRw st9 zRu zRt zRs zRr zUz zUy zRq zRp zRo zRn zRm ui3 ui5 ui9 zRl zRk zRj zRi zRh zRg zRf qK3 zRe zRd zUw qKh zUv zUu zUt zUs zRa zQ9 zQ8 zQ7 zQ6 zQ5 zQ4 zUq zQ3 zQ2 zQ1 zUp zt3 zUo zUn zUm zUl zUk zUj zUi zUh zUg zUf zUe
attribute [push_cast] qQh qBw wX qGb qGa qBv qAr qAs qB2 xC xH tL sP rY sF sD sC sN wL rX lD sM sE sG sJ sK sL sB rZ qZ qY qT qU qV qW qX oY oU pA oZ oX oW mL oV pB xA wZ rJ rK rG nD nC nB iX iY oS wE wD kZ mZ vU rL vV vT vS vW rM qCh vY qFc qG9 qXg qFe qBa rP qBb qA9 qA8 qA6 qL7 rQ qFf qFd qA5 qBd qL8 qBc vX qA7 qGe qBy qB0 wY qBz qQl qGf qQk qGc qBx qGd qQj wA rT wC wB tB sZ qMk qFj qBe qFk qBk wR wQ qFr wM wP qBl qFs sR wS qBm sQ wN qK2 qEm qK1 qEl qAq
attribute [push_cast] List.take_succ_cons List.take_zero List.drop_succ_cons List.drop_zero true_and and_true Option.isSome_some List.getElem?_cons_zero List.getElem?_cons_succ List.length_cons List.length_nil cond_true cond_false Int.toNat_natCast Nat.mul_one Nat.add_zero Nat.zero_add Addr.add_lit bne_self_eq_false beq_self_eq_true Bool.not_true Bool.not_false List.size_toArray Array.getD_eq_getD_getElem? List.getElem?_toArray Option.getD_some decide_true decide_false eq_self Bool.true_beq Bool.false_beq List.getD_cons_zero List.getD_cons_succ List.map_cons List.map_nil List.set_cons_zero List.set_cons_succ List.replicate_zero List.toList_toArray List.all_toArray List.all_cons List.all_nil Bool.and_self Bool.and_true Bool.true_and Bool.and_false Bool.false_and List.length_map List.length_append List.length_replicate List.length_set List.cons_append List.nil_append qU8 Option.isSome_some Option.isSome_none beq_true beq_false Bool.not_false Option.map_some Bool.true_or Bool.false_or Bool.or_true Bool.or_false Bool.false_xor Bool.true_xor and_self beq_self_eq_true qQb List.flatMap_cons List.flatMap_nil List.append_nil
attribute [push_cast] zEl zS zM zX zU zFb qT3 qNq qY8 qY7 qT2 zLe qS8 qX8 qX7 qX6 qX9 qYa qX5 zEm qS9 qPh qPi zLv qT7 qJs qT5 qF0 qNw qNx qT6 qNv qNs qT8 qNr qN1 qZc qN0 qJr qNt qZa qZd qNz qZb qY9 qUa qZj qZg qJ2 qP0 qPz qP1 qP2 qZh qZi qPq qPr qPp qPs qPv qPx qPw qPy zFe qPd qUf qPf qPe zDh qUm qPt qSy qUb zE3 cM mB mA qSq qMj qZl qZm qZn qPu qZo qUg qPg qUh qUi qUj qPj qUl qPl qUk qPk qPb qJw qJx qPm qPn qUe qPa qPc qJu qJv qJy qJz qUv zFl qZs qMe qJj qT1 qNp qUu qP7 qY2 qTv qP4 zAq qVh qTw qNo zLy qP5 qP6 qJ6 qJ7 qZk qMq qMs qMr qJ8 qSz qS1 qS0 zGo zEh zEi qSx qJ9 qZu qZx qZv qZw qS7 qM5 zL9 zFi zFj qUp qUq qUr qUs qUt qQx qKe zFk qZr zGn qSt zVt zL3 zSn zL2 zL4 zFa qY6 zMe qZ0 zLw qYy qYx qYw zVv zM5 zEe qN5 qXt qJt zEc qN3 qSs qF1 zEd qN4 qN9 qN8 qN7 qN6 qR2 dX fM qW5 qW6 fN dC cD bQ aY aZ aT bV cJ bW cY vB pN bD lJ jD cE qYt jE aX kG gL bC bB bP bN lG nJ lK lF jC jB jF jA oL oM oN lV lW lX cX qZ9 zRv zGp qSh qLy lZ jG gM iV gJ qWs qR1 zFh zFg qZp zFf zLz qY5 zE8 qTz zL0 zE9 qTp qJq qTn qFu qNj qNk qTo qNi qNg qTr qNl qYv zE1 qTs qNh qTt qNm qYu qTq qNf qJp qXm qXn qXp qXr qMg qXs qMh qMi qJk qSr qJl qJa qE5 qLv qXo qYq qTl qYp qTm zEy qYn zE6 qTy qY4 zE7 qNc qTk qNd zEx qYl qR8 qH8 qEy qLm qLj qH7 qLh qH5 qLn qLo qEt qAu qEs qEr qAi qDg qDh qEu qLi qEv qDf qDe qDc qH6 qDi rD qDd qEw qLq qLp qSn qMc qL9 qXj qMa qMb qYz qJn qMw qFa qJc zE4 qTx qY3 zE5 qNa qTj qNb zEw qYk qTc qTd qL1 qFb qLz qDj qJf qJg qL0 qJe qJb qL2 qJh qSk qXf qL3 qJd qSj qSi qVg qQ1 qNu qJ1 qT9 qUn qZq qP3 qUo qJ3 qEx qAv qNy zSo qJ4
 qXw qSv zJ5 zEu qYi qTa zEp zEr zEq zEt zGe zF8 qZ3 qTb zEs zLp zLq qRr zFm qSu zGd zGf qUw zF7 zF9 qZ2 qU5 qQq zC8 qWr zC9 qQu ltT ltF leT leF eqT eqF wW qDo qK7 qRs
attribute [push_cast] zS0 zWp bb4 zSz zSy zSx zSw zSv zSu zSt zSs zSr zWn zWm zWl zWk zT2 zWj zWi zT1 zWh zWg zGi zF6 zF5 zF4 zF3 zF2 zF1 zF0 zFz zFy zFx zFw zFv zFu zFt zFs zFr zFq zFp zFo zM0 zMz zMy zMx zMw zMv zMu zMt zMs zMr zMq qWd zMp zMo zMn zMm zMl zCl qWc zMk zMj zMi zMh zMg zMf zMd zSm zSl zSk zVq it3 it5 zSj zSi zSh zSg zSf zSe zSd zSc qV5 zSb zSa zR9 zR8 zR7 zVp zVo kt3 zVn kt4 zVm zPz zVl kt5 zVk zVj zVi zLg zVh zVg zVf kt9 zVe zVd zVc zR6 zD8 zD7 zD6 zD5 zD4 zD3 zD2 zD1 zD0 zDz zDy zDx zDw zDv zDu zDt zDs zDr zDq zDp zDo zDn zDm zDl zDk zDj zK1 zK0 zKz zKy zKx zKw zKv zKu zKt zKs zKr zKq zKp zKo zKn zKm zKl zKk zKj zKi zKh zKg zKf zR5 zR4 zR3 zR2 zR1 zR0 zRz zBi zRy zRx zU6 zPi zU5 zU4 zU3 zU2 zRw st9 zRu zRt zRs zRr zUz zUy zRq zRp zRo zRn zRm ui3 ui5 ui9 zRl zRk zRj zRi zRh zRg zRf qK3 zRe zRd zUw qKh zUv zUu zUt zUs zRa zQ9 zQ8 zQ7 zQ6 zQ5 zQ4 zUq zQ3 zQ2 zQ1 zUp zt3 zUo zUn zUm zUl zUk zUj zUi zUh zUg zUf zUe
attribute [push_cast] zPp yF zHh yG zJl yL zHy zLk zLl zLm zLn Option.getD_some Option.map_some Option.map_none Nat.zero_add vB lJ lG lF lK oL oN oM List.map_cons List.map_nil implies_true and_self true_and and_true true_implies false_implies Int.toNat_natCast Bool.or_true Bool.or_false Bool.and_true Bool.and_false
end Go.Proofs.YtbdomkfdkfdfgaaGreatDoor
