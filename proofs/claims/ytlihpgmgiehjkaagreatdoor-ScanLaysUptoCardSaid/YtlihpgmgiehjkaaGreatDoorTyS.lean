/-
  Facts of the types, the functions' names.
-/
import Derived.Test.YtlihpgmgiehjkaaGreatDoorGc
import Derived.Test.YtlihpgmgiehjkaaGreatDoorProg
namespace Go.Proofs.YtlihpgmgiehjkaaGreatDoor
open Go Go.Eng
theorem mixed:Tryz.prog.follows .mixedOrders=true:=by kernel_rfl
theorem zPw:dA Tryz.prog 158=true:=by kernel_rfl
theorem zPv:dA Tryz.prog 159=true:=by kernel_rfl
theorem zTy:dA Tryz.prog 52=true:=by kernel_rfl
theorem zTx:dA Tryz.prog 54=true:=by kernel_rfl
theorem zTw:dA Tryz.prog 64=true:=by kernel_rfl
theorem zTv:dA Tryz.prog 68=true:=by kernel_rfl
theorem zTu:dA Tryz.prog 76=true:=by kernel_rfl
theorem zTt:dA Tryz.prog 81=true:=by kernel_rfl
theorem zTs:dA Tryz.prog 83=true:=by kernel_rfl
theorem zTr:dA Tryz.prog 85=true:=by kernel_rfl
theorem zTq:dA Tryz.prog 97=true:=by kernel_rfl
theorem zCw:qNi Tryz.prog 9 127=true:=by kernel_rfl
theorem zCj:dS Tryz.prog 126 0=some 0:=by kernel_rfl
theorem zCi:dS Tryz.prog 126 1=some 1:=by kernel_rfl
theorem zCh:dS Tryz.prog 158 0=some 0:=by kernel_rfl
theorem zCg:dS Tryz.prog 158 1=some 1:=by kernel_rfl
theorem zKv:dS Tryz.prog 31 0=some 0:=by kernel_rfl
theorem zKu:dS Tryz.prog 31 1=some 1:=by kernel_rfl
theorem zKt:dS Tryz.prog 31 2=some 2:=by kernel_rfl
theorem zKs:dS Tryz.prog 31 3=some 3:=by kernel_rfl
theorem zKr:dS Tryz.prog 52 0=some 0:=by kernel_rfl
theorem zKq:dS Tryz.prog 52 1=some 1:=by kernel_rfl
theorem qZu:dS Tryz.prog 54 0=some 0:=by kernel_rfl
theorem zKp:dS Tryz.prog 54 1=some 1:=by kernel_rfl
theorem zKo:dS Tryz.prog 64 0=some 0:=by kernel_rfl
theorem zKn:dS Tryz.prog 64 1=some 1:=by kernel_rfl
theorem zKm:dS Tryz.prog 64 2=some 2:=by kernel_rfl
theorem zKl:dS Tryz.prog 64 3=some 3:=by kernel_rfl
theorem zKk:dS Tryz.prog 64 4=some 4:=by kernel_rfl
theorem zKj:dS Tryz.prog 64 5=some 5:=by kernel_rfl
theorem zKi:dS Tryz.prog 68 0=some 0:=by kernel_rfl
theorem zKh:dS Tryz.prog 68 1=some 1:=by kernel_rfl
theorem zKg:dS Tryz.prog 68 2=some 2:=by kernel_rfl
theorem zKf:dS Tryz.prog 68 3=some 3:=by kernel_rfl
theorem zKe:dS Tryz.prog 68 4=some 4:=by kernel_rfl
theorem zKd:dS Tryz.prog 68 5=some 5:=by kernel_rfl
theorem zKc:dS Tryz.prog 76 0=some 0:=by kernel_rfl
theorem zKb:dS Tryz.prog 76 1=some 1:=by kernel_rfl
theorem zKa:dS Tryz.prog 76 2=some 2:=by kernel_rfl
theorem zJ9:dS Tryz.prog 76 3=some 3:=by kernel_rfl
theorem zJ8:dS Tryz.prog 76 4=some 4:=by kernel_rfl
theorem zJ7:dS Tryz.prog 76 5=some 5:=by kernel_rfl
theorem zJ6:dS Tryz.prog 76 6=some 6:=by kernel_rfl
theorem zJ5:dS Tryz.prog 81 0=some 0:=by kernel_rfl
theorem zJ4:dS Tryz.prog 81 1=some 1:=by kernel_rfl
theorem zJ3:dS Tryz.prog 81 2=some 2:=by kernel_rfl
theorem zJ2:dS Tryz.prog 81 3=some 3:=by kernel_rfl
theorem zJ1:dS Tryz.prog 81 4=some 4:=by kernel_rfl
theorem zJ0:dS Tryz.prog 81 5=some 5:=by kernel_rfl
theorem zJz:dS Tryz.prog 83 0=some 0:=by kernel_rfl
theorem zJy:dS Tryz.prog 83 1=some 1:=by kernel_rfl
theorem zJx:dS Tryz.prog 83 2=some 2:=by kernel_rfl
theorem zJw:dS Tryz.prog 97 0=some 0:=by kernel_rfl
theorem zJv:dS Tryz.prog 97 1=some 1:=by kernel_rfl
theorem zJu:dS Tryz.prog 97 2=some 2:=by kernel_rfl
theorem zJt:dS Tryz.prog 97 3=some 3:=by kernel_rfl
theorem zJs:dS Tryz.prog 97 4=some 4:=by kernel_rfl
theorem zJr:dS Tryz.prog 97 5=some 5:=by kernel_rfl
theorem zJo:xE Tryz.prog 52 0=some (0,none):=by kernel_rfl
theorem zJn:xE Tryz.prog 97 0=some (0,none):=by kernel_rfl
theorem zJm:xE Tryz.prog 97 5=some (5,none):=by kernel_rfl
theorem zPp:qNt Tryz.prog 119=some .u64:=by kernel_rfl
theorem zPo:qNt Tryz.prog 140=some .u32:=by kernel_rfl
theorem zS4:qNt Tryz.prog 21=some .i32:=by kernel_rfl
theorem it3:qNt Tryz.prog 3=some .i64:=by kernel_rfl
theorem it5:qNt Tryz.prog 5=some .u8:=by kernel_rfl
theorem zS3:qNt Tryz.prog 98=some .u64:=by kernel_rfl
theorem zPm:bW Tryz.prog 158=some (some 2):=by kernel_rfl
theorem zPl:bW Tryz.prog 159=some (some 32):=by kernel_rfl
theorem zS2:bW Tryz.prog 23=some none:=by kernel_rfl
theorem kt3:bW Tryz.prog 3=some none:=by kernel_rfl
theorem zS1:bW Tryz.prog 31=some (some 4):=by kernel_rfl
theorem zS0:bW Tryz.prog 32=some none:=by kernel_rfl
theorem zSz:bW Tryz.prog 33=some none:=by kernel_rfl
theorem kt4:bW Tryz.prog 4=some none:=by kernel_rfl
theorem kt5:bW Tryz.prog 5=some none:=by kernel_rfl
theorem zQk:bW Tryz.prog 52=some (some 2):=by kernel_rfl
theorem zQj:bW Tryz.prog 54=some (some 3):=by kernel_rfl
theorem zSy:bW Tryz.prog 58=some none:=by kernel_rfl
theorem zSx:bW Tryz.prog 61=some none:=by kernel_rfl
theorem zSw:bW Tryz.prog 62=some none:=by kernel_rfl
theorem zSv:bW Tryz.prog 65=some none:=by kernel_rfl
theorem zSu:bW Tryz.prog 66=some none:=by kernel_rfl
theorem zSt:bW Tryz.prog 76=some (some 7):=by kernel_rfl
theorem zSs:bW Tryz.prog 78=some none:=by kernel_rfl
theorem zSr:bW Tryz.prog 79=some none:=by kernel_rfl
theorem zSq:bW Tryz.prog 81=some (some 6):=by kernel_rfl
theorem zSp:bW Tryz.prog 83=some (some 4):=by kernel_rfl
theorem kt9:bW Tryz.prog 9=some none:=by kernel_rfl
theorem zSo:bW Tryz.prog 97=some (some 6):=by kernel_rfl
theorem zSh:qGz Tryz.prog 23=true:=by kernel_rfl
theorem zAs:dQ Tryz.prog 158 0=some (0,1):=by kernel_rfl
theorem zAr:dQ Tryz.prog 158 1=some (1,1):=by kernel_rfl
theorem zAq:dQ Tryz.prog 159 0=some (0,2):=by kernel_rfl
theorem zAp:dQ Tryz.prog 159 1=some (2,2):=by kernel_rfl
theorem zAo:dQ Tryz.prog 159 2=some (4,2):=by kernel_rfl
theorem zAn:dQ Tryz.prog 159 3=some (6,2):=by kernel_rfl
theorem zAm:dQ Tryz.prog 159 4=some (8,2):=by kernel_rfl
theorem zG5:dQ Tryz.prog 52 0=some (0,1):=by kernel_rfl
theorem zG4:dQ Tryz.prog 52 1=some (1,1):=by kernel_rfl
theorem zG3:dQ Tryz.prog 54 0=some (0,1):=by kernel_rfl
theorem zG2:dQ Tryz.prog 54 1=some (1,2):=by kernel_rfl
theorem zG1:dQ Tryz.prog 64 0=some (0,1):=by kernel_rfl
theorem zG0:dQ Tryz.prog 64 1=some (1,1):=by kernel_rfl
theorem zGz:dQ Tryz.prog 64 4=some (4,1):=by kernel_rfl
theorem zGy:dQ Tryz.prog 68 4=some (4,1):=by kernel_rfl
theorem zGx:dQ Tryz.prog 76 0=some (0,1):=by kernel_rfl
theorem zGw:dQ Tryz.prog 76 1=some (1,1):=by kernel_rfl
theorem zGv:dQ Tryz.prog 81 0=some (0,1):=by kernel_rfl
theorem zGu:dQ Tryz.prog 81 1=some (1,1):=by kernel_rfl
theorem zGt:dQ Tryz.prog 81 2=some (2,1):=by kernel_rfl
theorem zGs:dQ Tryz.prog 81 3=some (3,1):=by kernel_rfl
theorem zGr:dQ Tryz.prog 81 4=some (4,1):=by kernel_rfl
theorem zGq:dQ Tryz.prog 83 0=some (0,1):=by kernel_rfl
theorem zGp:dQ Tryz.prog 83 1=some (1,1):=by kernel_rfl
theorem zGo:dQ Tryz.prog 83 2=some (2,2):=by kernel_rfl
theorem zGn:dQ Tryz.prog 85 0=some (0,1):=by kernel_rfl
theorem zGm:dQ Tryz.prog 85 1=some (1,1):=by kernel_rfl
theorem zGl:dQ Tryz.prog 97 0=some (0,1):=by kernel_rfl
theorem zPe:rD Tryz.prog 127=some (5,1,1,#[.int .u8 0]):=by kernel_rfl
theorem zSf:rD Tryz.prog 28=some (83,4,48,#[.string ByteArray.empty,.int .i64 0,.int .i64 0,.string ByteArray.empty]):=by kernel_rfl
theorem zSe:rD Tryz.prog 32=some (54,3,40,#[.string ByteArray.empty,.int .i64 0,.string ByteArray.empty]):=by kernel_rfl
theorem zSd:rD Tryz.prog 45=some (32,1,24,#[.slice none 0 0]):=by kernel_rfl
theorem zSc:rD Tryz.prog 58=some (9,1,16,#[.string ByteArray.empty]):=by kernel_rfl
theorem zSb:rD Tryz.prog 65=some (76,7,72,#[.string ByteArray.empty,.bool false,.string ByteArray.empty,.string ByteArray.empty,.bool false,.bool false,.int .i64 0]):=by kernel_rfl
theorem zPb:vA Tryz.prog 127=false:=by kernel_rfl
theorem st9:vA Tryz.prog 9=true:=by kernel_rfl
theorem zN9:qSo Tryz.prog 156=some (256,1):=by kernel_rfl
theorem zN8:qSo Tryz.prog 159=some (16,2):=by kernel_rfl
theorem zN7:(Tryz.prog.underlying 119).isSome=true:=by kernel_rfl
theorem zN6:(Tryz.prog.underlying 127).isSome=true:=by kernel_rfl
theorem zN5:(Tryz.prog.underlying 140).isSome=true:=by kernel_rfl
theorem ui3:(Tryz.prog.underlying 3).isSome=true:=by kernel_rfl
theorem ui5:(Tryz.prog.underlying 5).isSome=true:=by kernel_rfl
theorem ui9:(Tryz.prog.underlying 9).isSome=true:=by kernel_rfl
theorem zR7:(Tryz.prog.underlying 98).isSome=true:=by kernel_rfl
theorem zN4:cA Tryz.prog 127=some (5,1):=by kernel_rfl
theorem zR4:cA Tryz.prog 22=some (31,4):=by kernel_rfl
theorem zR3:cA Tryz.prog 28=some (83,4):=by kernel_rfl
theorem zP2:cA Tryz.prog 32=some (54,3):=by kernel_rfl
theorem zR2:cA Tryz.prog 45=some (32,1):=by kernel_rfl
theorem zR1:cA Tryz.prog 58=some (9,1):=by kernel_rfl
theorem zR0:cA Tryz.prog 65=some (76,7):=by kernel_rfl
theorem zRz:cA Tryz.prog 66=some (126,2):=by kernel_rfl
theorem zN2:dX Tryz.prog 158=some #[.int .u8 0,.int .u8 0]:=by kernel_rfl
theorem zN1:dX Tryz.prog 159=some #[.int .u8 0,.int .u8 0,.int .u8 0,.int .u8 0,.int .u8 0,.int .u8 0,.int .u8 0,.int .u8 0,.int .u8 0,.int .u8 0,.int .u8 0,.int .u8 0,.int .u8 0,.int .u8 0,.int .u8 0,.int .u8 0,.int .u8 0,.int .u8 0,.int .u8 0,.int .u8 0,.int .u8 0,.int .u8 0,.int .u8 0,.int .u8 0,.int .u8 0,.int .u8 0,.int .u8 0,.int .u8 0,.int .u8 0,.int .u8 0,.int .u8 0,.int .u8 0]:=by kernel_rfl
theorem zRx:dX Tryz.prog 23=some #[.pointer none]:=by kernel_rfl
theorem zt3:dX Tryz.prog 3=some #[.int .i64 0]:=by kernel_rfl
theorem zRw:dX Tryz.prog 31=some #[.int .i64 0,.string ByteArray.empty,.string ByteArray.empty,.int .i64 0]:=by kernel_rfl
theorem zRv:dX Tryz.prog 32=some #[.slice none 0 0]:=by kernel_rfl
theorem zRu:dX Tryz.prog 33=some #[.int .i64 0]:=by kernel_rfl
theorem zRt:dX Tryz.prog 52=some #[.int .i64 0,.string ByteArray.empty]:=by kernel_rfl
theorem zRs:dX Tryz.prog 54=some #[.string ByteArray.empty,.int .i64 0,.string ByteArray.empty]:=by kernel_rfl
theorem zRr:dX Tryz.prog 58=some #[.slice none 0 0]:=by kernel_rfl
theorem zRq:dX Tryz.prog 61=some #[.map none]:=by kernel_rfl
theorem zRp:dX Tryz.prog 64=some #[.map none,.map none,.int .i64 0,.int .i64 0,.int .i64 0,.bool false]:=by kernel_rfl
theorem zRo:dX Tryz.prog 68=some #[.slice none 0 0,.slice none 0 0,.int .i64 0,.int .i64 0,.int .i64 0,.bool false]:=by kernel_rfl
theorem zRn:dX Tryz.prog 76=some #[.string ByteArray.empty,.bool false,.string ByteArray.empty,.string ByteArray.empty,.bool false,.bool false,.int .i64 0]:=by kernel_rfl
theorem zRm:dX Tryz.prog 79=some #[.map none]:=by kernel_rfl
theorem zRl:dX Tryz.prog 81=some #[.pointer none,.string ByteArray.empty,.map none,.map none,.map none,.int .i64 0]:=by kernel_rfl
theorem zRk:dX Tryz.prog 83=some #[.string ByteArray.empty,.int .i64 0,.int .i64 0,.string ByteArray.empty]:=by kernel_rfl
theorem zRj:dX Tryz.prog 85=some #[.string ByteArray.empty,.int .i64 0]:=by kernel_rfl
theorem zt9:dX Tryz.prog 9=some #[.string ByteArray.empty]:=by kernel_rfl
theorem zRi:dX Tryz.prog 97=some #[.bool false,.string ByteArray.empty,.string ByteArray.empty,.bool false,.bool false,.int .i64 0]:=by kernel_rfl
theorem cl3:aK Tryz.prog 3=true:=by kernel_rfl
theorem cl5:aK Tryz.prog 5=true:=by kernel_rfl
theorem cl7:aK Tryz.prog 7=true:=by kernel_rfl
theorem cl9:aK Tryz.prog 9=true:=by kernel_rfl
theorem zNn:aK Tryz.prog 11=true:=by kernel_rfl
theorem zNm:aK Tryz.prog 12=true:=by kernel_rfl
theorem zLg:aK Tryz.prog 17=true:=by kernel_rfl
theorem zUu:aK Tryz.prog 18=true:=by kernel_rfl
theorem zUt:aK Tryz.prog 19=true:=by kernel_rfl
theorem zTh:aK Tryz.prog 20=true:=by kernel_rfl
theorem zUs:aK Tryz.prog 21=true:=by kernel_rfl
theorem zNl:aK Tryz.prog 22=true:=by kernel_rfl
theorem zUr:aK Tryz.prog 23=true:=by kernel_rfl
theorem zTg:aK Tryz.prog 24=true:=by kernel_rfl
theorem zUq:aK Tryz.prog 25=true:=by kernel_rfl
theorem zQ6:aK Tryz.prog 26=true:=by kernel_rfl
theorem zLf:aK Tryz.prog 27=true:=by kernel_rfl
theorem zQ5:aK Tryz.prog 28=true:=by kernel_rfl
theorem zUp:aK Tryz.prog 31=true:=by kernel_rfl
theorem zE4:aK Tryz.prog 40=true:=by kernel_rfl
theorem zNk:aK Tryz.prog 43=true:=by kernel_rfl
theorem zUo:aK Tryz.prog 44=true:=by kernel_rfl
theorem zTf:aK Tryz.prog 45=true:=by kernel_rfl
theorem zTe:aK Tryz.prog 46=true:=by kernel_rfl
theorem zTd:aK Tryz.prog 47=true:=by kernel_rfl
theorem zUn:aK Tryz.prog 48=true:=by kernel_rfl
theorem zLe:aK Tryz.prog 50=true:=by kernel_rfl
theorem zLd:aK Tryz.prog 51=true:=by kernel_rfl
theorem zUm:aK Tryz.prog 52=true:=by kernel_rfl
theorem zNj:aK Tryz.prog 53=true:=by kernel_rfl
theorem zUl:aK Tryz.prog 54=true:=by kernel_rfl
theorem zUk:aK Tryz.prog 55=true:=by kernel_rfl
theorem zUj:aK Tryz.prog 56=true:=by kernel_rfl
theorem zTc:aK Tryz.prog 57=true:=by kernel_rfl
theorem zQ4:aK Tryz.prog 58=true:=by kernel_rfl
theorem zTb:aK Tryz.prog 59=true:=by kernel_rfl
theorem zUi:aK Tryz.prog 60=true:=by kernel_rfl
theorem zNi:aK Tryz.prog 61=true:=by kernel_rfl
theorem zQ3:aK Tryz.prog 62=true:=by kernel_rfl
theorem zNh:aK Tryz.prog 63=true:=by kernel_rfl
theorem zUh:aK Tryz.prog 64=true:=by kernel_rfl
theorem zUg:aK Tryz.prog 75=true:=by kernel_rfl
theorem zUf:aK Tryz.prog 80=true:=by kernel_rfl
theorem zUe:aK Tryz.prog 81=true:=by kernel_rfl
theorem zUd:aK Tryz.prog 82=true:=by kernel_rfl
theorem zUc:aK Tryz.prog 83=true:=by kernel_rfl
theorem zQ2:aK Tryz.prog 84=true:=by kernel_rfl
theorem zUb:aK Tryz.prog 85=true:=by kernel_rfl
theorem zQ1:aK Tryz.prog 88=true:=by kernel_rfl
theorem zUa:aK Tryz.prog 90=true:=by kernel_rfl
theorem zT9:aK Tryz.prog 92=true:=by kernel_rfl
theorem zT8:aK Tryz.prog 93=true:=by kernel_rfl
theorem zQ0:aK Tryz.prog 96=true:=by kernel_rfl
theorem zT7:aK Tryz.prog 98=true:=by kernel_rfl
theorem zTn:aK Tryz.prog 100=true:=by kernel_rfl
theorem zLi:aK Tryz.prog 101=true:=by kernel_rfl
theorem zTm:aK Tryz.prog 102=true:=by kernel_rfl
theorem zTl:aK Tryz.prog 103=true:=by kernel_rfl
theorem zTk:aK Tryz.prog 104=true:=by kernel_rfl
theorem zPu:aK Tryz.prog 116=true:=by kernel_rfl
theorem zTj:aK Tryz.prog 118=true:=by kernel_rfl
theorem zLh:aK Tryz.prog 120=true:=by kernel_rfl
theorem zTi:aK Tryz.prog 131=true:=by kernel_rfl
attribute [push_cast] qM7 xH tJ qDq qDp xG vF vG xP tS tX pT oY oK oR oP oN oX sP oJ iH oW oQ oS oT oU oV oM oL nP nN nH nJ nK nL nM lX lS lZ lY lW lV lU lT mA tR tQ nW nX nV jY jX jW fT fU lQ sF sE iC jV rU nY rV rT rS rW nZ qCm rY qCl qJt qUt qCo wC oA wD wB wA vY qJr oB qCp qCn vX wF qJs wE rX vZ qDt xL xN tL xM qNa qDu qM9 qDr xK qDs qM8 sA oC sD sC pP pN qJ8 qCr wG qCs wN sV sU qC3 sR sT wP qC4 pA sW wQ oZ sS qHj qBs qHi qBr vD
attribute [push_cast] List.take_succ_cons List.take_zero List.drop_succ_cons List.drop_zero true_and and_true Option.isSome_some List.getElem?_cons_zero List.getElem?_cons_succ List.length_cons List.length_nil cond_true cond_false Int.toNat_natCast Nat.mul_one Nat.add_zero Nat.zero_add Addr.add_lit bne_self_eq_false beq_self_eq_true Bool.not_true Bool.not_false List.size_toArray Array.getD_eq_getD_getElem? List.getElem?_toArray Option.getD_some decide_true decide_false eq_self Bool.true_beq Bool.false_beq List.getD_cons_zero List.getD_cons_succ List.map_cons List.map_nil List.set_cons_zero List.set_cons_succ List.replicate_zero List.toList_toArray List.all_toArray List.all_cons List.all_nil Bool.and_self Bool.and_true Bool.true_and Bool.and_false Bool.false_and List.length_map List.length_append List.length_replicate List.length_set List.cons_append List.nil_append qR7 Option.isSome_some Option.isSome_none beq_true beq_false Bool.not_false Option.map_some Bool.true_or Bool.false_or Bool.or_true Bool.or_false Bool.false_xor Bool.true_xor and_self beq_self_eq_true qM4 List.flatMap_cons List.flatMap_nil List.append_nil
attribute [push_cast] zBc zS zM zX zU zB3 qQ2 qLi qWg qWf qQ1 zHo qQc qVk qVj qVi qVl qVm qVh zBe qQd qMb qMc zH4 qQ5 qGb qQ3 qDg qLo qLp qQ4 qLn qLk qQ6 qLj qLt qWk qLs qGa qLl qWi qWl qLr qWj qWh qQ8 qWq qWn qGl qMu qMt qMv qMw qWo qWp qMk qMl qMj qMm qMp qMr qMq qMs zB5 qL7 qRd qL9 qL8 zAj qRk qMn qP4 qQ9 zBv wY zBs qC8 qPx qJ7 qWs qWt qWu qMo qWv qRe qMa qRf qRg qRh qMd qRj qMf qRi qMe qL5 qGf qGg qMg qMh qRc qL4 qL6 qGd qGe qGh qGi qRt zCc qWz qJ0 qF1 qQ0 qLh qRs qM1 qWa qQv qMy qX1 qSc qQw qLg zH8 qMz qM0 qGp qGq qWr qKd qKf qKe qGr qP5 qP7 qP6 zCz zA7 zA8 qP3 qGs qW1 qW4 qW2 qW3 qQb qKs zJi zB9 zCa qRn qRo qRp qRq qRr qNm qGv zCb qWy zCy qP0 zS6 zJe zPq zJd zJf zB2 qWe zJp qW5 zH5 qV5 qV3 qV2 zS8 zKx zA3 qLx qU8 qGc zA0 qLv qPz qDh zA1 qLw qL2 qL1 qLz qLy qN9 qCz qJe qUi qUj qJh wX sZ tP pK rP nS vQ vR vS qDd qZj qKv tD qK3 wU tE qVz wV pB qQn sY tC tB tF tA qK2 qVy qK4 qK1 wT wS wW wR qSz qS0 qS1 qB6 qB7 qB8 qCt qXf zPa zC0 qPl qJk qCd xJ tK vH rM qT7 qN8 zB8 zB7 qWw zB6 zH9 qWd zB0 qQz zJa zB1 qQq qF9 qQo qC9 qK9 qLa qQp qK8 qK6 qQs qLb qV1 zBt qQt qK7 qQu qLc qV0 qQr qK5 qF8 qU0 qU1 qU3 qU5 qJ4 qU7 qJ5 qJ6 qF2 qPy qF3 qFo qCf qJg qU2 qVv qQl qVu qQm zBr qVt zBy qQy qWc zBz qKy qQk qKz zBq qVs qPe qFl qB5 qH7 qH4 qFk qH2 qFi qH8 qH9 qB0 vK qBz qBy uU qAs qAt qB1 qH3 qB2 qAr qAq qAo qFj qAu vJ qAp qB3 qJb qJa qPt qJz qJv qUv qJw qJx qV6 qF5 qKl qCi qFt zBw qQx qWb zBx qKw qQj qKx zBp qVr qQh qQi qJn qCj qJl qAv qFw qFx qJm qFv qFs qJo qFy qPo qUs qJp qFu qPn qPm qSb qNo qLm qGk qDl qQ7 qRl qWx qMx qRm qGm qB4 vL qLq zPs qGn
 qVa qP2 zF1 zBo qVp qQf zBi zBk zBj zBm zCr zCl qW9 qQg zBl zH1 zH2 qN4 zCd qJc qFn qP1 zCq zCs qRv zCk zCm qW8 qR5 qNe zAf qT2 zAg qNj ltT ltF leT leF eqT eqF xD zL1 qHp qN5
attribute [push_cast] zPw zPv zTy zTx zTw zTv zTu zTt zTs zTr zTq zCw zCj zCi zCh zCg zKv zKu zKt zKs zKr zKq qZu zKp zKo zKn zKm zKl zKk zKj zKi zKh zKg zKf zKe zKd zKc zKb zKa zJ9 zJ8 zJ7 zJ6 zJ5 zJ4 zJ3 zJ2 zJ1 zJ0 zJz zJy zJx zJw zJv zJu zJt zJs zJr zJo zJn zJm zPp zPo zS4 it3 it5 zS3 zPm zPl zS2 kt3 zS1 zS0 zSz kt4 kt5 zQk zQj zSy zSx zSw zSv zSu zSt zSs zSr zSq zSp kt9 zSo zSh zAs zAr zAq zAp zAo zAn zAm zG5 zG4 zG3 zG2 zG1 zG0 zGz zGy zGx zGw zGv zGu zGt zGs zGr zGq zGp zGo zGn zGm zGl zPe zSf zSe zSd zSc zSb zPb st9 zN9 zN8 zN7 zN6 zN5 ui3 ui5 ui9 zR7 zN4 zR4 zR3 zP2 zR2 zR1 zR0 zRz zN2 zN1 zRx zt3 zRw zRv zRu zRt zRs zRr zRq zRp zRo zRn zRm zRl zRk zRj zt9 zRi
attribute [push_cast] qM7 xH tJ qDq qDp xG vF vG xP tS tX pT oY oK oR oP oN oX sP oJ iH oW oQ oS oT oU oV oM oL nP nN nH nJ nK nL nM lX lS lZ lY lW lV lU lT mA tR tQ nW nX nV jY jX jW fT fU lQ sF sE iC jV rU nY rV rT rS rW nZ qCm rY qCl qJt qUt qCo wC oA wD wB wA vY qJr oB qCp qCn vX wF qJs wE rX vZ qDt xL xN tL xM qNa qDu qM9 qDr xK qDs qM8 sA oC sD sC pP pN qJ8 qCr wG qCs wN sV sU qC3 sR sT wP qC4 pA sW wQ oZ sS qHj qBs qHi qBr vD
attribute [push_cast] List.take_succ_cons List.take_zero List.drop_succ_cons List.drop_zero true_and and_true Option.isSome_some List.getElem?_cons_zero List.getElem?_cons_succ List.length_cons List.length_nil cond_true cond_false Int.toNat_natCast Nat.mul_one Nat.add_zero Nat.zero_add Addr.add_lit bne_self_eq_false beq_self_eq_true Bool.not_true Bool.not_false List.size_toArray Array.getD_eq_getD_getElem? List.getElem?_toArray Option.getD_some decide_true decide_false eq_self Bool.true_beq Bool.false_beq List.getD_cons_zero List.getD_cons_succ List.map_cons List.map_nil List.set_cons_zero List.set_cons_succ List.replicate_zero List.toList_toArray List.all_toArray List.all_cons List.all_nil Bool.and_self Bool.and_true Bool.true_and Bool.and_false Bool.false_and List.length_map List.length_append List.length_replicate List.length_set List.cons_append List.nil_append qR7 Option.isSome_some Option.isSome_none beq_true beq_false Bool.not_false Option.map_some Bool.true_or Bool.false_or Bool.or_true Bool.or_false Bool.false_xor Bool.true_xor and_self beq_self_eq_true qM4 List.flatMap_cons List.flatMap_nil List.append_nil
attribute [push_cast] zBc zS zM zX zU zB3 qQ2 qLi qWg qWf qQ1 zHo qQc qVk qVj qVi qVl qVm qVh zBe qQd qMb qMc zH4 qQ5 qGb qQ3 qDg qLo qLp qQ4 qLn qLk qQ6 qLj qLt qWk qLs qGa qLl qWi qWl qLr qWj qWh qQ8 qWq qWn qGl qMu qMt qMv qMw qWo qWp qMk qMl qMj qMm qMp qMr qMq qMs zB5 qL7 qRd qL9 qL8 zAj qRk qMn qP4 qQ9 zBv wY zBs qC8 qPx qJ7 qWs qWt qWu qMo qWv qRe qMa qRf qRg qRh qMd qRj qMf qRi qMe qL5 qGf qGg qMg qMh qRc qL4 qL6 qGd qGe qGh qGi qRt zCc qWz qJ0 qF1 qQ0 qLh qRs qM1 qWa qQv qMy qX1 qSc qQw qLg zH8 qMz qM0 qGp qGq qWr qKd qKf qKe qGr qP5 qP7 qP6 zCz zA7 zA8 qP3 qGs qW1 qW4 qW2 qW3 qQb qKs zJi zB9 zCa qRn qRo qRp qRq qRr qNm qGv zCb qWy zCy qP0 zS6 zJe zPq zJd zJf zB2 qWe zJp qW5 zH5 qV5 qV3 qV2 zS8 zKx zA3 qLx qU8 qGc zA0 qLv qPz qDh zA1 qLw qL2 qL1 qLz qLy qN9 qCz qJe qUi qUj qJh wX sZ tP pK rP nS vQ vR vS qDd qZj qKv tD qK3 wU tE qVz wV pB qQn sY tC tB tF tA qK2 qVy qK4 qK1 wT wS wW wR qSz qS0 qS1 qB6 qB7 qB8 qCt qXf zPa zC0 qPl qJk qCd xJ tK vH rM qT7 qN8 zB8 zB7 qWw zB6 zH9 qWd zB0 qQz zJa zB1 qQq qF9 qQo qC9 qK9 qLa qQp qK8 qK6 qQs qLb qV1 zBt qQt qK7 qQu qLc qV0 qQr qK5 qF8 qU0 qU1 qU3 qU5 qJ4 qU7 qJ5 qJ6 qF2 qPy qF3 qFo qCf qJg qU2 qVv qQl qVu qQm zBr qVt zBy qQy qWc zBz qKy qQk qKz zBq qVs qPe qFl qB5 qH7 qH4 qFk qH2 qFi qH8 qH9 qB0 vK qBz qBy uU qAs qAt qB1 qH3 qB2 qAr qAq qAo qFj qAu vJ qAp qB3 qJb qJa qPt qJz qJv qUv qJw qJx qV6 qF5 qKl qCi qFt zBw qQx qWb zBx qKw qQj qKx zBp qVr qQh qQi qJn qCj qJl qAv qFw qFx qJm qFv qFs qJo qFy qPo qUs qJp qFu qPn qPm qSb qNo qLm qGk qDl qQ7 qRl qWx qMx qRm qGm qB4 vL qLq zPs qGn
 qVa qP2 zF1 zBo qVp qQf zBi zBk zBj zBm zCr zCl qW9 qQg zBl zH1 zH2 qN4 zCd qJc qFn qP1 zCq zCs qRv zCk zCm qW8 qR5 qNe zAf qT2 zAg qNj ltT ltF leT leF eqT eqF xD zL1 qHp qN5
attribute [push_cast] zPw zPv zTy zTx zTw zTv zTu zTt zTs zTr zTq zCw zCj zCi zCh zCg zKv zKu zKt zKs zKr zKq qZu zKp zKo zKn zKm zKl zKk zKj zKi zKh zKg zKf zKe zKd zKc zKb zKa zJ9 zJ8 zJ7 zJ6 zJ5 zJ4 zJ3 zJ2 zJ1 zJ0 zJz zJy zJx zJw zJv zJu zJt zJs zJr zJo zJn zJm zPp zPo zS4 it3 it5 zS3 zPm zPl zS2 kt3 zS1 zS0 zSz kt4 kt5 zQk zQj zSy zSx zSw zSv zSu zSt zSs zSr zSq zSp kt9 zSo zSh zAs zAr zAq zAp zAo zAn zAm zG5 zG4 zG3 zG2 zG1 zG0 zGz zGy zGx zGw zGv zGu zGt zGs zGr zGq zGp zGo zGn zGm zGl zPe zSf zSe zSd zSc zSb zPb st9 zN9 zN8 zN7 zN6 zN5 ui3 ui5 ui9 zR7 zN4 zR4 zR3 zP2 zR2 zR1 zR0 zRz zN2 zN1 zRx zt3 zRw zRv zRu zRt zRs zRr zRq zRp zRo zRn zRm zRl zRk zRj zt9 zRi
attribute [push_cast] zMl yF zDt yG zE8 yL zEk zHw zHx zHy zHz Option.getD_some Option.map_some Option.map_none Nat.zero_add qZj qK3 qK2 qK1 qK4 qSz qS1 qS0 List.map_cons List.map_nil implies_true and_self true_and and_true true_implies false_implies Int.toNat_natCast Bool.or_true Bool.or_false Bool.and_true Bool.and_false
end Go.Proofs.YtlihpgmgiehjkaaGreatDoor
