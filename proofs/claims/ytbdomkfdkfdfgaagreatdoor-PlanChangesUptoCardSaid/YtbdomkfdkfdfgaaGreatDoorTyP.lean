/-
  Facts of the types, the functions' names.
-/
import Derived.Test.YtbdomkfdkfdfgaaGreatDoorGc
import Derived.Test.YtbdomkfdkfdfgaaGreatDoorProg
namespace Go.Proofs.YtbdomkfdkfdfgaaGreatDoor
open Go Go.Eng
theorem mixed:Tryz.prog.follows .mixedOrders=true:=by kernel_rfl
theorem zQq:qN9 Tryz.prog 167=some 3:=by kernel_rfl
theorem zUl:qN9 Tryz.prog 41=some 3:=by kernel_rfl
theorem bb4:qPu Tryz.prog 4=true:=by kernel_rfl
theorem zQp:bS Tryz.prog 153=true:=by kernel_rfl
theorem zQo:bS Tryz.prog 167=true:=by kernel_rfl
theorem zQn:bS Tryz.prog 173=true:=by kernel_rfl
theorem zQm:bS Tryz.prog 179=true:=by kernel_rfl
theorem zQl:bS Tryz.prog 196=true:=by kernel_rfl
theorem zQk:bS Tryz.prog 219=true:=by kernel_rfl
theorem zQj:bS Tryz.prog 227=true:=by kernel_rfl
theorem zQi:bS Tryz.prog 241=true:=by kernel_rfl
theorem zQh:bS Tryz.prog 242=true:=by kernel_rfl
theorem zUj:bS Tryz.prog 28=true:=by kernel_rfl
theorem zUi:bS Tryz.prog 32=true:=by kernel_rfl
theorem zUh:bS Tryz.prog 39=true:=by kernel_rfl
theorem zUg:bS Tryz.prog 41=true:=by kernel_rfl
theorem zUf:bS Tryz.prog 47=true:=by kernel_rfl
theorem zUe:bS Tryz.prog 50=true:=by kernel_rfl
theorem zUd:bS Tryz.prog 64=true:=by kernel_rfl
theorem zUc:bS Tryz.prog 67=true:=by kernel_rfl
theorem zUb:bS Tryz.prog 71=true:=by kernel_rfl
theorem zUa:bS Tryz.prog 92=true:=by kernel_rfl
theorem zD7:qNx Tryz.prog 9 191=true:=by kernel_rfl
theorem zDt:eM Tryz.prog 153 0=some 0:=by kernel_rfl
theorem zDs:eM Tryz.prog 153 1=some 1:=by kernel_rfl
theorem zDr:eM Tryz.prog 153 2=some 2:=by kernel_rfl
theorem zDq:eM Tryz.prog 153 3=some 3:=by kernel_rfl
theorem zDp:eM Tryz.prog 173 0=some 0:=by kernel_rfl
theorem zDo:eM Tryz.prog 173 1=some 1:=by kernel_rfl
theorem zDn:eM Tryz.prog 173 2=some 2:=by kernel_rfl
theorem zDm:eM Tryz.prog 173 3=some 3:=by kernel_rfl
theorem zDl:eM Tryz.prog 173 4=some 4:=by kernel_rfl
theorem zDk:eM Tryz.prog 173 5=some 5:=by kernel_rfl
theorem zDj:eM Tryz.prog 173 6=some 6:=by kernel_rfl
theorem zDi:eM Tryz.prog 201 0=some 0:=by kernel_rfl
theorem zDh:eM Tryz.prog 201 1=some 1:=by kernel_rfl
theorem zDg:eM Tryz.prog 219 0=some 0:=by kernel_rfl
theorem zDf:eM Tryz.prog 219 1=some 1:=by kernel_rfl
theorem zDe:eM Tryz.prog 227 0=some 0:=by kernel_rfl
theorem zDd:eM Tryz.prog 227 1=some 1:=by kernel_rfl
theorem zDc:eM Tryz.prog 241 0=some 0:=by kernel_rfl
theorem zDb:eM Tryz.prog 241 1=some 1:=by kernel_rfl
theorem zKv:eM Tryz.prog 28 0=some 0:=by kernel_rfl
theorem zKu:eM Tryz.prog 28 1=some 1:=by kernel_rfl
theorem zKt:eM Tryz.prog 28 2=some 2:=by kernel_rfl
theorem zKs:eM Tryz.prog 28 3=some 3:=by kernel_rfl
theorem zKr:eM Tryz.prog 39 0=some 0:=by kernel_rfl
theorem zKq:eM Tryz.prog 39 1=some 1:=by kernel_rfl
theorem zKp:eM Tryz.prog 39 2=some 2:=by kernel_rfl
theorem zKo:eM Tryz.prog 39 3=some 3:=by kernel_rfl
theorem zKn:eM Tryz.prog 39 4=some 4:=by kernel_rfl
theorem zKm:eM Tryz.prog 39 5=some 5:=by kernel_rfl
theorem zKl:eM Tryz.prog 39 6=some 6:=by kernel_rfl
theorem zKk:eM Tryz.prog 47 0=some 0:=by kernel_rfl
theorem zKj:eM Tryz.prog 47 1=some 1:=by kernel_rfl
theorem zKi:eM Tryz.prog 50 2=some 2:=by kernel_rfl
theorem zKh:eM Tryz.prog 50 3=some 8:=by kernel_rfl
theorem zKg:eM Tryz.prog 64 1=some 1:=by kernel_rfl
theorem zKf:eM Tryz.prog 64 2=some 2:=by kernel_rfl
theorem zKe:eM Tryz.prog 67 0=some 0:=by kernel_rfl
theorem zKd:eM Tryz.prog 67 1=some 1:=by kernel_rfl
theorem zKc:eM Tryz.prog 71 0=some 0:=by kernel_rfl
theorem zKb:eM Tryz.prog 71 1=some 1:=by kernel_rfl
theorem zKa:eM Tryz.prog 92 0=some 0:=by kernel_rfl
theorem zJ9:eM Tryz.prog 92 1=some 1:=by kernel_rfl
theorem zJ8:eM Tryz.prog 92 2=some 2:=by kernel_rfl
theorem zJ7:eM Tryz.prog 92 3=some 3:=by kernel_rfl
theorem zJ5:qDd Tryz.prog 47 0=some (0,none):=by kernel_rfl
theorem zQd:qPf Tryz.prog 109=some .u64:=by kernel_rfl
theorem zQc:qPf Tryz.prog 136=some .u32:=by kernel_rfl
theorem zQb:qPf Tryz.prog 138=some .u64:=by kernel_rfl
theorem zTm:qPf Tryz.prog 21=some .i32:=by kernel_rfl
theorem it3:qPf Tryz.prog 3=some .i64:=by kernel_rfl
theorem it5:qPf Tryz.prog 5=some .u8:=by kernel_rfl
theorem zQa:aY Tryz.prog 149=some none:=by kernel_rfl
theorem zP9:aY Tryz.prog 153=some (some 4):=by kernel_rfl
theorem zP8:aY Tryz.prog 169=some none:=by kernel_rfl
theorem zP7:aY Tryz.prog 173=some (some 7):=by kernel_rfl
theorem zP6:aY Tryz.prog 191=some none:=by kernel_rfl
theorem zP5:aY Tryz.prog 196=some (some 2):=by kernel_rfl
theorem zP4:aY Tryz.prog 199=some none:=by kernel_rfl
theorem zP3:aY Tryz.prog 219=some (some 2):=by kernel_rfl
theorem zTk:aY Tryz.prog 22=some none:=by kernel_rfl
theorem zP2:aY Tryz.prog 225=some none:=by kernel_rfl
theorem zP1:aY Tryz.prog 227=some (some 2):=by kernel_rfl
theorem zP0:aY Tryz.prog 229=some none:=by kernel_rfl
theorem zPz:aY Tryz.prog 241=some (some 2):=by kernel_rfl
theorem zPy:aY Tryz.prog 242=some (some 32):=by kernel_rfl
theorem zTj:aY Tryz.prog 26=some none:=by kernel_rfl
theorem zTi:aY Tryz.prog 28=some (some 4):=by kernel_rfl
theorem kt3:aY Tryz.prog 3=some none:=by kernel_rfl
theorem zTh:aY Tryz.prog 39=some (some 7):=by kernel_rfl
theorem kt4:aY Tryz.prog 4=some none:=by kernel_rfl
theorem zTg:aY Tryz.prog 41=some (some 3):=by kernel_rfl
theorem qT6:aY Tryz.prog 47=some (some 2):=by kernel_rfl
theorem zQ8:aY Tryz.prog 48=some (some 6):=by kernel_rfl
theorem kt5:aY Tryz.prog 5=some none:=by kernel_rfl
theorem zTf:aY Tryz.prog 50=some (some 14):=by kernel_rfl
theorem zTe:aY Tryz.prog 52=some none:=by kernel_rfl
theorem zTd:aY Tryz.prog 64=some (some 4):=by kernel_rfl
theorem zQ7:aY Tryz.prog 67=some (some 3):=by kernel_rfl
theorem zTc:aY Tryz.prog 68=some none:=by kernel_rfl
theorem zTb:aY Tryz.prog 71=some (some 2):=by kernel_rfl
theorem zTa:aY Tryz.prog 81=some none:=by kernel_rfl
theorem kt9:aY Tryz.prog 9=some none:=by kernel_rfl
theorem zS9:aY Tryz.prog 90=some none:=by kernel_rfl
theorem zS8:aY Tryz.prog 92=some (some 4):=by kernel_rfl
theorem zS7:aY Tryz.prog 96=some none:=by kernel_rfl
theorem zPx:qHc Tryz.prog 199=true:=by kernel_rfl
theorem zBy:bU Tryz.prog 153 0=some (0,1):=by kernel_rfl
theorem zBx:bU Tryz.prog 153 1=some (1,1):=by kernel_rfl
theorem zBw:bU Tryz.prog 153 2=some (2,1):=by kernel_rfl
theorem zBv:bU Tryz.prog 153 3=some (3,1):=by kernel_rfl
theorem zBu:bU Tryz.prog 167 0=some (0,1):=by kernel_rfl
theorem zBt:bU Tryz.prog 167 1=some (1,1):=by kernel_rfl
theorem zBs:bU Tryz.prog 167 2=some (2,1):=by kernel_rfl
theorem zBr:bU Tryz.prog 173 0=some (0,1):=by kernel_rfl
theorem zBq:bU Tryz.prog 173 1=some (1,1):=by kernel_rfl
theorem zBp:bU Tryz.prog 173 2=some (2,1):=by kernel_rfl
theorem zBo:bU Tryz.prog 179 0=some (0,1):=by kernel_rfl
theorem zBn:bU Tryz.prog 179 1=some (1,1):=by kernel_rfl
theorem zBm:bU Tryz.prog 179 2=some (2,1):=by kernel_rfl
theorem zBl:bU Tryz.prog 196 0=some (0,1):=by kernel_rfl
theorem zBk:bU Tryz.prog 196 1=some (1,1):=by kernel_rfl
theorem zBj:bU Tryz.prog 219 0=some (0,1):=by kernel_rfl
theorem zBi:bU Tryz.prog 219 1=some (1,1):=by kernel_rfl
theorem zBh:bU Tryz.prog 227 0=some (0,1):=by kernel_rfl
theorem zBg:bU Tryz.prog 227 1=some (1,1):=by kernel_rfl
theorem zBf:bU Tryz.prog 241 0=some (0,1):=by kernel_rfl
theorem zBe:bU Tryz.prog 241 1=some (1,1):=by kernel_rfl
theorem zBd:bU Tryz.prog 242 0=some (0,2):=by kernel_rfl
theorem zBc:bU Tryz.prog 242 1=some (2,2):=by kernel_rfl
theorem zBb:bU Tryz.prog 242 2=some (4,2):=by kernel_rfl
theorem zBa:bU Tryz.prog 242 3=some (6,2):=by kernel_rfl
theorem zA9:bU Tryz.prog 242 4=some (8,2):=by kernel_rfl
theorem zHs:bU Tryz.prog 28 0=some (0,1):=by kernel_rfl
theorem zHr:bU Tryz.prog 28 1=some (1,1):=by kernel_rfl
theorem zHq:bU Tryz.prog 28 2=some (2,1):=by kernel_rfl
theorem zHp:bU Tryz.prog 39 0=some (0,1):=by kernel_rfl
theorem zHo:bU Tryz.prog 39 1=some (1,1):=by kernel_rfl
theorem zHn:bU Tryz.prog 39 2=some (2,1):=by kernel_rfl
theorem zHm:bU Tryz.prog 41 0=some (0,1):=by kernel_rfl
theorem zHl:bU Tryz.prog 41 1=some (1,1):=by kernel_rfl
theorem zHk:bU Tryz.prog 41 2=some (2,1):=by kernel_rfl
theorem zHj:bU Tryz.prog 47 0=some (0,1):=by kernel_rfl
theorem zHi:bU Tryz.prog 47 1=some (1,1):=by kernel_rfl
theorem zHh:bU Tryz.prog 50 0=some (0,1):=by kernel_rfl
theorem zHg:bU Tryz.prog 50 1=some (1,1):=by kernel_rfl
theorem zHf:bU Tryz.prog 64 0=some (0,1):=by kernel_rfl
theorem zHe:bU Tryz.prog 64 1=some (1,1):=by kernel_rfl
theorem zHd:bU Tryz.prog 64 2=some (2,2):=by kernel_rfl
theorem zHc:bU Tryz.prog 67 0=some (0,1):=by kernel_rfl
theorem zHb:bU Tryz.prog 67 1=some (1,2):=by kernel_rfl
theorem zHa:bU Tryz.prog 71 0=some (0,1):=by kernel_rfl
theorem zG9:bU Tryz.prog 71 1=some (1,1):=by kernel_rfl
theorem zG8:bU Tryz.prog 92 0=some (0,1):=by kernel_rfl
theorem zG7:bU Tryz.prog 92 1=some (1,1):=by kernel_rfl
theorem zG6:bU Tryz.prog 92 2=some (2,1):=by kernel_rfl
theorem zPw:iB Tryz.prog 124=some (96,1,8,#[.pointer none]):=by kernel_rfl
theorem zPv:iB Tryz.prog 149=some (153,4,80,#[.bool false,.slice none 0 0,.slice none 0 0,.slice none 0 0]):=by kernel_rfl
theorem zPu:iB Tryz.prog 169=some (3,1,8,#[.int .i64 0]):=by kernel_rfl
theorem zPt:iB Tryz.prog 177=some (179,3,24,#[.int .i64 0,.int .i64 0,.int .i64 0]):=by kernel_rfl
theorem zPs:iB Tryz.prog 191=some (5,1,1,#[.int .u8 0]):=by kernel_rfl
theorem zPr:iB Tryz.prog 192=some (196,2,16,#[.int .i64 0,.int .i64 0]):=by kernel_rfl
theorem zPq:iB Tryz.prog 215=some (219,2,16,#[.int .i64 0,.int .i64 0]):=by kernel_rfl
theorem zS2:iB Tryz.prog 22=some (67,3,40,#[.string ByteArray.empty,.int .i64 0,.string ByteArray.empty]):=by kernel_rfl
theorem zPp:iB Tryz.prog 225=some (229,1,2,#[.int .i16 0]):=by kernel_rfl
theorem zPo:iB Tryz.prog 237=some (169,1,24,#[.slice none 0 0]):=by kernel_rfl
theorem zS1:iB Tryz.prog 26=some (39,7,112,#[.string ByteArray.empty,.slice none 0 0,.slice none 0 0,.string ByteArray.empty,.bool false,.int .i64 0,.string ByteArray.empty]):=by kernel_rfl
theorem zS0:iB Tryz.prog 37=some (22,1,24,#[.slice none 0 0]):=by kernel_rfl
theorem zSz:iB Tryz.prog 43=some (50,14,168,#[.string ByteArray.empty,.int .i64 0,.int .i64 0,.string ByteArray.empty,.int .i64 0,.string ByteArray.empty,.int .i64 0,.string ByteArray.empty,.int .i64 0,.string ByteArray.empty,.int .i64 0,.string ByteArray.empty,.int .i64 0,.string ByteArray.empty]):=by kernel_rfl
theorem zSy:iB Tryz.prog 52=some (64,4,48,#[.int .i64 0,.string ByteArray.empty,.int .i64 0,.string ByteArray.empty]):=by kernel_rfl
theorem zSx:iB Tryz.prog 68=some (71,2,24,#[.string ByteArray.empty,.int .i64 0]):=by kernel_rfl
theorem zSw:iB Tryz.prog 81=some (9,1,16,#[.string ByteArray.empty]):=by kernel_rfl
theorem zPn:uU Tryz.prog 191=false:=by kernel_rfl
theorem st9:uU Tryz.prog 9=true:=by kernel_rfl
theorem zPl:qD0 Tryz.prog 179=some (3,1):=by kernel_rfl
theorem zPk:qD0 Tryz.prog 196=some (2,1):=by kernel_rfl
theorem zPj:qD0 Tryz.prog 239=some (256,1):=by kernel_rfl
theorem zPi:qD0 Tryz.prog 242=some (16,2):=by kernel_rfl
theorem zSt:qD0 Tryz.prog 41=some (3,1):=by kernel_rfl
theorem zSs:qD0 Tryz.prog 48=some (3,2):=by kernel_rfl
theorem zPh:(Tryz.prog.underlying 109).isSome=true:=by kernel_rfl
theorem zPg:(Tryz.prog.underlying 136).isSome=true:=by kernel_rfl
theorem zPf:(Tryz.prog.underlying 138).isSome=true:=by kernel_rfl
theorem zPe:(Tryz.prog.underlying 199).isSome=true:=by kernel_rfl
theorem zPd:(Tryz.prog.underlying 234).isSome=true:=by kernel_rfl
theorem ui3:(Tryz.prog.underlying 3).isSome=true:=by kernel_rfl
theorem ui5:(Tryz.prog.underlying 5).isSome=true:=by kernel_rfl
theorem ui9:(Tryz.prog.underlying 9).isSome=true:=by kernel_rfl
theorem zPc:aW Tryz.prog 124=some (96,1):=by kernel_rfl
theorem zPb:aW Tryz.prog 149=some (153,4):=by kernel_rfl
theorem zPa:aW Tryz.prog 169=some (3,1):=by kernel_rfl
theorem zN9:aW Tryz.prog 177=some (179,3):=by kernel_rfl
theorem zN8:aW Tryz.prog 191=some (5,1):=by kernel_rfl
theorem zN7:aW Tryz.prog 192=some (196,2):=by kernel_rfl
theorem zN6:aW Tryz.prog 215=some (219,2):=by kernel_rfl
theorem zQt:aW Tryz.prog 22=some (67,3):=by kernel_rfl
theorem zN5:aW Tryz.prog 225=some (229,1):=by kernel_rfl
theorem zN4:aW Tryz.prog 237=some (169,1):=by kernel_rfl
theorem zSp:aW Tryz.prog 26=some (39,7):=by kernel_rfl
theorem zSo:aW Tryz.prog 37=some (22,1):=by kernel_rfl
theorem zSn:aW Tryz.prog 43=some (50,14):=by kernel_rfl
theorem zSm:aW Tryz.prog 52=some (64,4):=by kernel_rfl
theorem zSl:aW Tryz.prog 68=some (71,2):=by kernel_rfl
theorem zSk:aW Tryz.prog 81=some (9,1):=by kernel_rfl
theorem zN1:dL Tryz.prog 153=some #[.bool false,.slice none 0 0,.slice none 0 0,.slice none 0 0]:=by kernel_rfl
theorem zN0:dL Tryz.prog 167=some #[.string ByteArray.empty,.string ByteArray.empty,.string ByteArray.empty]:=by kernel_rfl
theorem zNz:dL Tryz.prog 173=some #[.slice none 0 0,.slice none 0 0,.slice none 0 0,.int .i64 0,.int .i64 0,.int .i64 0,.slice none 0 0]:=by kernel_rfl
theorem zNy:dL Tryz.prog 179=some #[.int .i64 0,.int .i64 0,.int .i64 0]:=by kernel_rfl
theorem zNx:dL Tryz.prog 196=some #[.int .i64 0,.int .i64 0]:=by kernel_rfl
theorem zNw:dL Tryz.prog 201=some #[.pointer none,.slice none 0 0]:=by kernel_rfl
theorem zNv:dL Tryz.prog 219=some #[.int .i64 0,.int .i64 0]:=by kernel_rfl
theorem zSi:dL Tryz.prog 22=some #[.slice none 0 0]:=by kernel_rfl
theorem zNu:dL Tryz.prog 227=some #[.int .i64 0,.slice none 0 0]:=by kernel_rfl
theorem zNt:dL Tryz.prog 241=some #[.int .u8 0,.int .u8 0]:=by kernel_rfl
theorem zNs:dL Tryz.prog 242=some #[.int .u8 0,.int .u8 0,.int .u8 0,.int .u8 0,.int .u8 0,.int .u8 0,.int .u8 0,.int .u8 0,.int .u8 0,.int .u8 0,.int .u8 0,.int .u8 0,.int .u8 0,.int .u8 0,.int .u8 0,.int .u8 0,.int .u8 0,.int .u8 0,.int .u8 0,.int .u8 0,.int .u8 0,.int .u8 0,.int .u8 0,.int .u8 0,.int .u8 0,.int .u8 0,.int .u8 0,.int .u8 0,.int .u8 0,.int .u8 0,.int .u8 0,.int .u8 0]:=by kernel_rfl
theorem zSh:dL Tryz.prog 28=some #[.slice none 0 0,.slice none 0 0,.slice none 0 0,.slice none 0 0]:=by kernel_rfl
theorem zt3:dL Tryz.prog 3=some #[.int .i64 0]:=by kernel_rfl
theorem zSg:dL Tryz.prog 39=some #[.string ByteArray.empty,.slice none 0 0,.slice none 0 0,.string ByteArray.empty,.bool false,.int .i64 0,.string ByteArray.empty]:=by kernel_rfl
theorem zSf:dL Tryz.prog 41=some #[.slice none 0 0,.slice none 0 0,.slice none 0 0]:=by kernel_rfl
theorem zSe:dL Tryz.prog 47=some #[.int .i64 0,.string ByteArray.empty]:=by kernel_rfl
theorem zSd:dL Tryz.prog 50=some #[.string ByteArray.empty,.int .i64 0,.int .i64 0,.string ByteArray.empty,.int .i64 0,.string ByteArray.empty,.int .i64 0,.string ByteArray.empty,.int .i64 0,.string ByteArray.empty,.int .i64 0,.string ByteArray.empty,.int .i64 0,.string ByteArray.empty]:=by kernel_rfl
theorem zSc:dL Tryz.prog 52=some #[.slice none 0 0]:=by kernel_rfl
theorem zSb:dL Tryz.prog 64=some #[.int .i64 0,.string ByteArray.empty,.int .i64 0,.string ByteArray.empty]:=by kernel_rfl
theorem zSa:dL Tryz.prog 67=some #[.string ByteArray.empty,.int .i64 0,.string ByteArray.empty]:=by kernel_rfl
theorem zR9:dL Tryz.prog 71=some #[.string ByteArray.empty,.int .i64 0]:=by kernel_rfl
theorem zR8:dL Tryz.prog 81=some #[.slice none 0 0]:=by kernel_rfl
theorem zR7:dL Tryz.prog 90=some #[.map none]:=by kernel_rfl
theorem zR6:dL Tryz.prog 92=some #[.slice none 0 0,.slice none 0 0,.slice none 0 0,.slice none 0 0]:=by kernel_rfl
theorem cl8:aE Tryz.prog 8=true:=by kernel_rfl
theorem zVr:aE Tryz.prog 11=true:=by kernel_rfl
theorem zT1:aE Tryz.prog 13=true:=by kernel_rfl
theorem zK8:aE Tryz.prog 17=true:=by kernel_rfl
theorem zTx:aE Tryz.prog 18=true:=by kernel_rfl
theorem zVq:aE Tryz.prog 19=true:=by kernel_rfl
theorem zTw:aE Tryz.prog 20=true:=by kernel_rfl
theorem zVp:aE Tryz.prog 23=true:=by kernel_rfl
theorem qYh:aE Tryz.prog 24=true:=by kernel_rfl
theorem zRp:aE Tryz.prog 29=true:=by kernel_rfl
theorem zVo:aE Tryz.prog 30=true:=by kernel_rfl
theorem zVn:aE Tryz.prog 31=true:=by kernel_rfl
theorem zF7:aE Tryz.prog 37=true:=by kernel_rfl
theorem zK7:aE Tryz.prog 38=true:=by kernel_rfl
theorem zK6:aE Tryz.prog 39=true:=by kernel_rfl
theorem zVm:aE Tryz.prog 40=true:=by kernel_rfl
theorem zVl:aE Tryz.prog 41=true:=by kernel_rfl
theorem zVk:aE Tryz.prog 42=true:=by kernel_rfl
theorem uW:aE Tryz.prog 43=true:=by kernel_rfl
theorem zVj:aE Tryz.prog 44=true:=by kernel_rfl
theorem zVi:aE Tryz.prog 47=true:=by kernel_rfl
theorem zRo:aE Tryz.prog 50=true:=by kernel_rfl
theorem zK5:aE Tryz.prog 51=true:=by kernel_rfl
theorem qUo:aE Tryz.prog 52=true:=by kernel_rfl
theorem zVh:aE Tryz.prog 53=true:=by kernel_rfl
theorem zVg:aE Tryz.prog 54=true:=by kernel_rfl
theorem zVf:aE Tryz.prog 60=true:=by kernel_rfl
theorem zVe:aE Tryz.prog 61=true:=by kernel_rfl
theorem zRn:aE Tryz.prog 62=true:=by kernel_rfl
theorem zVd:aE Tryz.prog 65=true:=by kernel_rfl
theorem qYg:aE Tryz.prog 66=true:=by kernel_rfl
theorem zK4:aE Tryz.prog 67=true:=by kernel_rfl
theorem zVc:aE Tryz.prog 68=true:=by kernel_rfl
theorem zK3:aE Tryz.prog 72=true:=by kernel_rfl
theorem zVb:aE Tryz.prog 73=true:=by kernel_rfl
theorem zVa:aE Tryz.prog 74=true:=by kernel_rfl
theorem zU9:aE Tryz.prog 75=true:=by kernel_rfl
theorem zU8:aE Tryz.prog 76=true:=by kernel_rfl
theorem zU7:aE Tryz.prog 77=true:=by kernel_rfl
theorem zU6:aE Tryz.prog 78=true:=by kernel_rfl
theorem zU5:aE Tryz.prog 79=true:=by kernel_rfl
theorem zRm:aE Tryz.prog 80=true:=by kernel_rfl
theorem zU4:aE Tryz.prog 94=true:=by kernel_rfl
theorem zRl:aE Tryz.prog 95=true:=by kernel_rfl
theorem zU3:aE Tryz.prog 96=true:=by kernel_rfl
theorem zU2:aE Tryz.prog 97=true:=by kernel_rfl
theorem zU1:aE Tryz.prog 98=true:=by kernel_rfl
theorem zU0:aE Tryz.prog 99=true:=by kernel_rfl
theorem zT8:aE Tryz.prog 102=true:=by kernel_rfl
theorem zT7:aE Tryz.prog 103=true:=by kernel_rfl
theorem zT6:aE Tryz.prog 104=true:=by kernel_rfl
theorem qS0:aE Tryz.prog 107=true:=by kernel_rfl
theorem zT5:aE Tryz.prog 108=true:=by kernel_rfl
theorem zT4:aE Tryz.prog 110=true:=by kernel_rfl
theorem zT3:aE Tryz.prog 126=true:=by kernel_rfl
theorem zT2:aE Tryz.prog 127=true:=by kernel_rfl
theorem zLa:aE Tryz.prog 129=true:=by kernel_rfl
theorem zK9:aE Tryz.prog 130=true:=by kernel_rfl
theorem zT0:aE Tryz.prog 146=true:=by kernel_rfl
theorem zTz:aE Tryz.prog 147=true:=by kernel_rfl
theorem zTy:aE Tryz.prog 149=true:=by kernel_rfl
attribute [push_cast] zAg qNj qE7 qUg qUf qNi qH6 qH7 qNs qFc qFj qB2 qBn qBa qBg qBe qBd qBm qEv qA9 rB qBl qBf qBh qBi qBj qBk qBc qBb qAo qAn qAi qAj qAk qAl qAm vL vG vN vM vK vJ pS vH vP qFb qFa qAw qAx qAv tT tR tQ mS mT vF qEn qEm qV tP qEc qAz qEd qEb qEa qEe qA0 qHk qEh qTp qTt zHu qTr qJ7 qA2 qJ8 qJ6 qJ5 qJ3 qZk qA3 qTs qTq qJ2 qKa qZl qJ9 qEg qJ4 qUj qNm qNo qE9 qNn zAj qUk zAi qUh qNl qUi zAh qEj qA4 qEl qEk qBx qBw qZr qTx qKn qTy qK6 qE0 qEz qT8 qEw qEy qK7 qT9 qBp qE1 qK8 qBo qEx qY4 qTe qY3 qTd qH2
attribute [push_cast] List.take_succ_cons List.take_zero List.drop_succ_cons List.drop_zero true_and and_true Option.isSome_some List.getElem?_cons_zero List.getElem?_cons_succ List.length_cons List.length_nil cond_true cond_false Int.toNat_natCast Nat.mul_one Nat.add_zero Nat.zero_add Addr.add_lit bne_self_eq_false beq_self_eq_true Bool.not_true Bool.not_false List.size_toArray Array.getD_eq_getD_getElem? List.getElem?_toArray Option.getD_some decide_true decide_false eq_self Bool.true_beq Bool.false_beq List.getD_cons_zero List.getD_cons_succ List.map_cons List.map_nil List.set_cons_zero List.set_cons_succ List.replicate_zero List.toList_toArray List.all_toArray List.all_cons List.all_nil Bool.and_self Bool.and_true Bool.true_and Bool.and_false Bool.false_and List.length_map List.length_append List.length_replicate List.length_set List.cons_append List.nil_append qSx Option.isSome_some Option.isSome_none beq_true beq_false Bool.not_false Option.map_some Bool.true_or Bool.false_or Bool.or_true Bool.or_false Bool.false_xor Bool.true_xor and_self beq_self_eq_true qNc List.flatMap_cons List.flatMap_nil List.append_nil
attribute [push_cast] zCa zS zM zX zU zCy qRs qLq qW5 qW4 qRr zJd qQ4 qV7 qV6 qV5 qV8 qV9 qV4 zCb qQ5 qMh qMi zJr qRw qGn qRu qC5 qLw qLx qRv qLv qLs qRx qLr qL1 qW9 qL0 qGm qLt qW7 qXa qLz qW8 qW6 qRz qXf qXc qGx qM0 qMz qM1 qM2 qXd qXe qMq qMr qMp qMs qMv qMx qMw qMy zC0 qMd qR4 qMf qMe zA8 qSb qMt qQw qR0 zCq gC qC qB qQo qKm qXh qXi qXj qMu qXk qR5 qMg qR6 qR7 qR8 qMj qSa qMl qR9 qMk qMb qGr qGs qMm qMn qR3 qMa qMc qGp qGq qGt qGu qSk zC7 qXo qKh qGe qRq qLp qSj qM7 qWy qRl qM4 qYo qTa qRm qLo zJt qM5 qM6 qG1 qG2 qXg qKs qKu qKt qG3 qQx qQz qQy zEb zB6 zB7 qQv qG4 qXq qXt qXr qXs qQ3 qK5 zJ1 zC4 zC5 qSe qSf qSg qSh qSi qN2 qG8 zC6 qXn zEa qQr zTp zJy zQe zJx zJz zCx qW3 zJ6 qXx zJs qWu qWt qWs zTr zKx zB3 qL5 qVu qGo zB1 qL3 qQq qC6 zB2 qL4 qL9 qL8 qL7 qL6 qP3 lR qS qVa qVb qT iZ gU fE eE eW dZ fX fY fZ iM qE2 vT fC sG mG gV qWp mH eD sJ jR fB fA fD eZ sF vU sK sE mF mE mJ mD wN wP wQ pK pM pN iL qX9 zPm zEc qQf qJv pQ mK jU lU jN qU0 qP2 zC3 zC2 qXl zC1 zJu qW1 zCv qRp zJv zCw qRg qGl qRe qCz qLj qLk qRf qLi qLg qRi qLl qWr zCo qRj qLh qRk qLm qWq qRh qLf qGk qVm qVn qVp qVr qKj qVs qKk qKl qGf qQp qGg qF5 qCn qJs qVo qWm qRc qWl qRd zCn qWk zCt qRo qW0 zCu qLc qRb qLd zCm qWi qP9 qF3 qCk qJk qJh qF2 qJf qF0 qJl qJm qCf uZ qCe qCd uP yZ zF qCg qJg qCh yY yX xZ qF1 qAa oD yR qCi qJo qJn qQk qKf qKb qVj qKc qKd qWv qGj qKy qCq qF7 zCr qRn qWz zCs qLa qRa qLb zCl qWh qQ8 qQ9 qJy qCr qJw qAb qGa qGb qJx qF9 qF6 qJz qGc qQi qVi qJ0 qF8 qQh qQg qS9 qN6 qLu qGw qRy qSc qXm qM3 qSd qGy qCj vA qLy zQf qGz
 qVv qQt zGu zCj qWf qQ6 zCe zCg zCf zCi zD2 zDv qX2 qQ7 zCh zJn zJo qPv zC8 qQs zD1 zD3 qSl zDu zDw qX1 qSt qNt zA1 qUx zA2 qNy ltT ltF leT leF eqT eqF sR zQr qH4 qPw
attribute [push_cast] zQq zUl bb4 zQp zQo zQn zQm zQl zQk zQj zQi zQh zUj zUi zUh zUg zUf zUe zUd zUc zUb zUa zD7 zDt zDs zDr zDq zDp zDo zDn zDm zDl zDk zDj zDi zDh zDg zDf zDe zDd zDc zDb zKv zKu zKt zKs zKr zKq zKp zKo zKn zKm zKl zKk zKj zKi zKh zKg zKf zKe zKd zKc zKb zKa zJ9 zJ8 zJ7 zJ5 zQd zQc zQb zTm it3 it5 zQa zP9 zP8 zP7 zP6 zP5 zP4 zP3 zTk zP2 zP1 zP0 zPz zPy zTj zTi kt3 zTh kt4 zTg qT6 zQ8 kt5 zTf zTe zTd zQ7 zTc zTb zTa kt9 zS9 zS8 zS7 zPx zBy zBx zBw zBv zBu zBt zBs zBr zBq zBp zBo zBn zBm zBl zBk zBj zBi zBh zBg zBf zBe zBd zBc zBb zBa zA9 zHs zHr zHq zHp zHo zHn zHm zHl zHk zHj zHi zHh zHg zHf zHe zHd zHc zHb zHa zG9 zG8 zG7 zG6 zPw zPv zPu zPt zPs zPr zPq zS2 zPp zPo zS1 zS0 zSz zSy zSx zSw zPn st9 zPl zPk zPj zPi zSt zSs zPh zPg zPf zPe zPd ui3 ui5 ui9 zPc zPb zPa zN9 zN8 zN7 zN6 zQt zN5 zN4 zSp zSo zSn zSm zSl zSk zN1 zN0 zNz zNy zNx zNw zNv zSi zNu zNt zNs zSh zt3 zSg zSf zSe zSd zSc zSb zSa zR9 zR8 zR7 zR6
attribute [push_cast] zAg qNj qE7 qUg qUf qNi qH6 qH7 qNs qFc qFj qB2 qBn qBa qBg qBe qBd qBm qEv qA9 rB qBl qBf qBh qBi qBj qBk qBc qBb qAo qAn qAi qAj qAk qAl qAm vL vG vN vM vK vJ pS vH vP qFb qFa qAw qAx qAv tT tR tQ mS mT vF qEn qEm qV tP qEc qAz qEd qEb qEa qEe qA0 qHk qEh qTp qTt zHu qTr qJ7 qA2 qJ8 qJ6 qJ5 qJ3 qZk qA3 qTs qTq qJ2 qKa qZl qJ9 qEg qJ4 qUj qNm qNo qE9 qNn zAj qUk zAi qUh qNl qUi zAh qEj qA4 qEl qEk qBx qBw qZr qTx qKn qTy qK6 qE0 qEz qT8 qEw qEy qK7 qT9 qBp qE1 qK8 qBo qEx qY4 qTe qY3 qTd qH2
attribute [push_cast] List.take_succ_cons List.take_zero List.drop_succ_cons List.drop_zero true_and and_true Option.isSome_some List.getElem?_cons_zero List.getElem?_cons_succ List.length_cons List.length_nil cond_true cond_false Int.toNat_natCast Nat.mul_one Nat.add_zero Nat.zero_add Addr.add_lit bne_self_eq_false beq_self_eq_true Bool.not_true Bool.not_false List.size_toArray Array.getD_eq_getD_getElem? List.getElem?_toArray Option.getD_some decide_true decide_false eq_self Bool.true_beq Bool.false_beq List.getD_cons_zero List.getD_cons_succ List.map_cons List.map_nil List.set_cons_zero List.set_cons_succ List.replicate_zero List.toList_toArray List.all_toArray List.all_cons List.all_nil Bool.and_self Bool.and_true Bool.true_and Bool.and_false Bool.false_and List.length_map List.length_append List.length_replicate List.length_set List.cons_append List.nil_append qSx Option.isSome_some Option.isSome_none beq_true beq_false Bool.not_false Option.map_some Bool.true_or Bool.false_or Bool.or_true Bool.or_false Bool.false_xor Bool.true_xor and_self beq_self_eq_true qNc List.flatMap_cons List.flatMap_nil List.append_nil
attribute [push_cast] zCa zS zM zX zU zCy qRs qLq qW5 qW4 qRr zJd qQ4 qV7 qV6 qV5 qV8 qV9 qV4 zCb qQ5 qMh qMi zJr qRw qGn qRu qC5 qLw qLx qRv qLv qLs qRx qLr qL1 qW9 qL0 qGm qLt qW7 qXa qLz qW8 qW6 qRz qXf qXc qGx qM0 qMz qM1 qM2 qXd qXe qMq qMr qMp qMs qMv qMx qMw qMy zC0 qMd qR4 qMf qMe zA8 qSb qMt qQw qR0 zCq gC qC qB qQo qKm qXh qXi qXj qMu qXk qR5 qMg qR6 qR7 qR8 qMj qSa qMl qR9 qMk qMb qGr qGs qMm qMn qR3 qMa qMc qGp qGq qGt qGu qSk zC7 qXo qKh qGe qRq qLp qSj qM7 qWy qRl qM4 qYo qTa qRm qLo zJt qM5 qM6 qG1 qG2 qXg qKs qKu qKt qG3 qQx qQz qQy zEb zB6 zB7 qQv qG4 qXq qXt qXr qXs qQ3 qK5 zJ1 zC4 zC5 qSe qSf qSg qSh qSi qN2 qG8 zC6 qXn zEa qQr zTp zJy zQe zJx zJz zCx qW3 zJ6 qXx zJs qWu qWt qWs zTr zKx zB3 qL5 qVu qGo zB1 qL3 qQq qC6 zB2 qL4 qL9 qL8 qL7 qL6 qP3 lR qS qVa qVb qT iZ gU fE eE eW dZ fX fY fZ iM qE2 vT fC sG mG gV qWp mH eD sJ jR fB fA fD eZ sF vU sK sE mF mE mJ mD wN wP wQ pK pM pN iL qX9 zPm zEc qQf qJv pQ mK jU lU jN qU0 qP2 zC3 zC2 qXl zC1 zJu qW1 zCv qRp zJv zCw qRg qGl qRe qCz qLj qLk qRf qLi qLg qRi qLl qWr zCo qRj qLh qRk qLm qWq qRh qLf qGk qVm qVn qVp qVr qKj qVs qKk qKl qGf qQp qGg qF5 qCn qJs qVo qWm qRc qWl qRd zCn qWk zCt qRo qW0 zCu qLc qRb qLd zCm qWi qP9 qF3 qCk qJk qJh qF2 qJf qF0 qJl qJm qCf uZ qCe qCd uP yZ zF qCg qJg qCh yY yX xZ qF1 qAa oD yR qCi qJo qJn qQk qKf qKb qVj qKc qKd qWv qGj qKy qCq qF7 zCr qRn qWz zCs qLa qRa qLb zCl qWh qQ8 qQ9 qJy qCr qJw qAb qGa qGb qJx qF9 qF6 qJz qGc qQi qVi qJ0 qF8 qQh qQg qS9 qN6 qLu qGw qRy qSc qXm qM3 qSd qGy qCj vA qLy zQf qGz
 qVv qQt zGu zCj qWf qQ6 zCe zCg zCf zCi zD2 zDv qX2 qQ7 zCh zJn zJo qPv zC8 qQs zD1 zD3 qSl zDu zDw qX1 qSt qNt zA1 qUx zA2 qNy ltT ltF leT leF eqT eqF sR zQr qH4 qPw
attribute [push_cast] zQq zUl bb4 zQp zQo zQn zQm zQl zQk zQj zQi zQh zUj zUi zUh zUg zUf zUe zUd zUc zUb zUa zD7 zDt zDs zDr zDq zDp zDo zDn zDm zDl zDk zDj zDi zDh zDg zDf zDe zDd zDc zDb zKv zKu zKt zKs zKr zKq zKp zKo zKn zKm zKl zKk zKj zKi zKh zKg zKf zKe zKd zKc zKb zKa zJ9 zJ8 zJ7 zJ5 zQd zQc zQb zTm it3 it5 zQa zP9 zP8 zP7 zP6 zP5 zP4 zP3 zTk zP2 zP1 zP0 zPz zPy zTj zTi kt3 zTh kt4 zTg qT6 zQ8 kt5 zTf zTe zTd zQ7 zTc zTb zTa kt9 zS9 zS8 zS7 zPx zBy zBx zBw zBv zBu zBt zBs zBr zBq zBp zBo zBn zBm zBl zBk zBj zBi zBh zBg zBf zBe zBd zBc zBb zBa zA9 zHs zHr zHq zHp zHo zHn zHm zHl zHk zHj zHi zHh zHg zHf zHe zHd zHc zHb zHa zG9 zG8 zG7 zG6 zPw zPv zPu zPt zPs zPr zPq zS2 zPp zPo zS1 zS0 zSz zSy zSx zSw zPn st9 zPl zPk zPj zPi zSt zSs zPh zPg zPf zPe zPd ui3 ui5 ui9 zPc zPb zPa zN9 zN8 zN7 zN6 zQt zN5 zN4 zSp zSo zSn zSm zSl zSk zN1 zN0 zNz zNy zNx zNw zNv zSi zNu zNt zNs zSh zt3 zSg zSf zSe zSd zSc zSb zSa zR9 zR8 zR7 zR6
attribute [push_cast] zMn yF zE1 yG zGb yL zFo zJi zJj zJk zJl Option.getD_some Option.map_some Option.map_none Nat.zero_add qE2 sG sF sE sK wN wQ wP List.map_cons List.map_nil implies_true and_self true_and and_true true_implies false_implies Int.toNat_natCast Bool.or_true Bool.or_false Bool.and_true Bool.and_false
end Go.Proofs.YtbdomkfdkfdfgaaGreatDoor
