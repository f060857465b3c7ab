/-
  Facts of the types, the functions' names.
-/
import Derived.Test.YtojolcpblacjjaaGreatDoorGc
import Derived.Test.YtojolcpblacjjaaGreatDoorProg
namespace Go.Proofs.YtojolcpblacjjaaGreatDoor
open Go Go.Eng
theorem mixed : Tryz.prog.follows .mixedOrders = true := by kernel_rfl
theorem bb4 : qKa Tryz.prog 4 = true := by kernel_rfl
theorem zGr : dQ Tryz.prog 123 = true := by kernel_rfl
theorem zGq : dQ Tryz.prog 124 = true := by kernel_rfl
theorem zK2 : dQ Tryz.prog 35 = true := by kernel_rfl
theorem zK1 : dQ Tryz.prog 37 = true := by kernel_rfl
theorem zK0 : dQ Tryz.prog 47 = true := by kernel_rfl
theorem zKz : dQ Tryz.prog 65 = true := by kernel_rfl
theorem zKy : dQ Tryz.prog 76 = true := by kernel_rfl
theorem zEh : qJy Tryz.prog 9 90 = true := by kernel_rfl
theorem qX0 : eW Tryz.prog 123 0 = some 0 := by kernel_rfl
theorem qXz : eW Tryz.prog 123 1 = some 1 := by kernel_rfl
theorem zDx : eW Tryz.prog 29 0 = some 0 := by kernel_rfl
theorem fQ : eW Tryz.prog 29 1 = some 1 := by kernel_rfl
theorem sL : eW Tryz.prog 29 2 = some 2 := by kernel_rfl
theorem sK : eW Tryz.prog 29 3 = some 3 := by kernel_rfl
theorem zDw : eW Tryz.prog 35 0 = some 0 := by kernel_rfl
theorem zDv : eW Tryz.prog 35 1 = some 1 := by kernel_rfl
theorem zDu : eW Tryz.prog 35 2 = some 2 := by kernel_rfl
theorem zDt : eW Tryz.prog 35 3 = some 3 := by kernel_rfl
theorem zDs : eW Tryz.prog 35 4 = some 4 := by kernel_rfl
theorem zDr : eW Tryz.prog 35 5 = some 5 := by kernel_rfl
theorem zDq : eW Tryz.prog 37 0 = some 0 := by kernel_rfl
theorem zDp : eW Tryz.prog 37 1 = some 1 := by kernel_rfl
theorem zDo : eW Tryz.prog 37 2 = some 2 := by kernel_rfl
theorem zDn : eW Tryz.prog 37 3 = some 3 := by kernel_rfl
theorem zDm : eW Tryz.prog 37 4 = some 4 := by kernel_rfl
theorem zDl : eW Tryz.prog 37 5 = some 5 := by kernel_rfl
theorem zDk : eW Tryz.prog 37 6 = some 6 := by kernel_rfl
theorem zDj : eW Tryz.prog 47 0 = some 0 := by kernel_rfl
theorem zDi : eW Tryz.prog 47 1 = some 1 := by kernel_rfl
theorem zDh : eW Tryz.prog 47 2 = some 2 := by kernel_rfl
theorem zDg : eW Tryz.prog 47 3 = some 3 := by kernel_rfl
theorem zDf : eW Tryz.prog 47 4 = some 4 := by kernel_rfl
theorem zDe : eW Tryz.prog 47 5 = some 5 := by kernel_rfl
theorem zDd : eW Tryz.prog 65 0 = some 0 := by kernel_rfl
theorem zDc : eW Tryz.prog 65 1 = some 1 := by kernel_rfl
theorem zDb : eW Tryz.prog 65 2 = some 2 := by kernel_rfl
theorem zDa : eW Tryz.prog 65 3 = some 3 := by kernel_rfl
theorem zC9 : eW Tryz.prog 65 4 = some 4 := by kernel_rfl
theorem zC8 : eW Tryz.prog 65 5 = some 5 := by kernel_rfl
theorem zC7 : eW Tryz.prog 76 0 = some 0 := by kernel_rfl
theorem zC6 : eW Tryz.prog 76 1 = some 1 := by kernel_rfl
theorem zC3 : uN Tryz.prog 65 0 = some (0, none) := by kernel_rfl
theorem zC2 : uN Tryz.prog 65 5 = some (5, none) := by kernel_rfl
theorem zGn : qJ5 Tryz.prog 105 = some .u32 := by kernel_rfl
theorem zKe : qJ5 Tryz.prog 21 = some .i32 := by kernel_rfl
theorem it3 : qJ5 Tryz.prog 3 = some .i64 := by kernel_rfl
theorem it5 : qJ5 Tryz.prog 5 = some .u8 := by kernel_rfl
theorem zKd : qJ5 Tryz.prog 81 = some .u64 := by kernel_rfl
theorem zKc : qJ5 Tryz.prog 89 = some .u64 := by kernel_rfl
theorem zGm : cJ Tryz.prog 123 = some (some 2) := by kernel_rfl
theorem zGl : cJ Tryz.prog 124 = some (some 32) := by kernel_rfl
theorem zKb : cJ Tryz.prog 29 = some (some 4) := by kernel_rfl
theorem kt3 : cJ Tryz.prog 3 = some none := by kernel_rfl
theorem zKa : cJ Tryz.prog 32 = some none := by kernel_rfl
theorem zJ9 : cJ Tryz.prog 33 = some none := by kernel_rfl
theorem zJ8 : cJ Tryz.prog 37 = some (some 7) := by kernel_rfl
theorem kt4 : cJ Tryz.prog 4 = some none := by kernel_rfl
theorem zJ7 : cJ Tryz.prog 44 = some none := by kernel_rfl
theorem zJ6 : cJ Tryz.prog 45 = some none := by kernel_rfl
theorem kt5 : cJ Tryz.prog 5 = some none := by kernel_rfl
theorem zJ5 : cJ Tryz.prog 59 = some none := by kernel_rfl
theorem zJ4 : cJ Tryz.prog 65 = some (some 6) := by kernel_rfl
theorem kt9 : cJ Tryz.prog 9 = some none := by kernel_rfl
theorem zJu : qDm Tryz.prog 23 = true := by kernel_rfl
theorem qWi : fW Tryz.prog 123 0 = some (0, 1) := by kernel_rfl
theorem qWh : fW Tryz.prog 123 1 = some (1, 1) := by kernel_rfl
theorem qWg : fW Tryz.prog 124 0 = some (0, 2) := by kernel_rfl
theorem qWf : fW Tryz.prog 124 1 = some (2, 2) := by kernel_rfl
theorem qWe : fW Tryz.prog 124 2 = some (4, 2) := by kernel_rfl
theorem qWd : fW Tryz.prog 124 3 = some (6, 2) := by kernel_rfl
theorem qWc : fW Tryz.prog 124 4 = some (8, 2) := by kernel_rfl
theorem zBn : fW Tryz.prog 35 4 = some (4, 1) := by kernel_rfl
theorem zBm : fW Tryz.prog 37 0 = some (0, 1) := by kernel_rfl
theorem zBl : fW Tryz.prog 37 1 = some (1, 1) := by kernel_rfl
theorem zBk : fW Tryz.prog 47 0 = some (0, 1) := by kernel_rfl
theorem zBj : fW Tryz.prog 47 1 = some (1, 1) := by kernel_rfl
theorem zBi : fW Tryz.prog 47 4 = some (4, 1) := by kernel_rfl
theorem zBh : fW Tryz.prog 65 0 = some (0, 1) := by kernel_rfl
theorem zBg : fW Tryz.prog 76 0 = some (0, 1) := by kernel_rfl
theorem zBf : fW Tryz.prog 76 1 = some (1, 1) := by kernel_rfl
theorem zJs : oT Tryz.prog 32 = some (37, 7, 72, #[.string ByteArray.empty, .bool false, .string ByteArray.empty, .string ByteArray.empty, .bool false, .bool false, .int .i64 0]) := by kernel_rfl
theorem zJr : oT Tryz.prog 33 = some (76, 2, 24, #[.string ByteArray.empty, .int .i64 0]) := by kernel_rfl
theorem zJq : oT Tryz.prog 59 = some (9, 1, 16, #[.string ByteArray.empty]) := by kernel_rfl
theorem zJp : oT Tryz.prog 63 = some (59, 1, 24, #[.slice none 0 0]) := by kernel_rfl
theorem zJo : oT Tryz.prog 90 = some (5, 1, 1, #[.int .u8 0]) := by kernel_rfl
theorem zJn : rE Tryz.prog 90 = false := by kernel_rfl
theorem st9 : rE Tryz.prog 9 = true := by kernel_rfl
theorem zGg : qNp Tryz.prog 121 = some (256, 1) := by kernel_rfl
theorem zGf : qNp Tryz.prog 124 = some (16, 2) := by kernel_rfl
theorem zGe : (Tryz.prog.underlying 105).isSome = true := by kernel_rfl
theorem ui3 : (Tryz.prog.underlying 3).isSome = true := by kernel_rfl
theorem ui5 : (Tryz.prog.underlying 5).isSome = true := by kernel_rfl
theorem zJm : (Tryz.prog.underlying 81).isSome = true := by kernel_rfl
theorem zJl : (Tryz.prog.underlying 89).isSome = true := by kernel_rfl
theorem ui9 : (Tryz.prog.underlying 9).isSome = true := by kernel_rfl
theorem zJk : (Tryz.prog.underlying 90).isSome = true := by kernel_rfl
theorem zJh : cF Tryz.prog 22 = some (29, 4) := by kernel_rfl
theorem zJg : cF Tryz.prog 32 = some (37, 7) := by kernel_rfl
theorem zJf : cF Tryz.prog 33 = some (76, 2) := by kernel_rfl
theorem zJe : cF Tryz.prog 59 = some (9, 1) := by kernel_rfl
theorem zJd : cF Tryz.prog 63 = some (59, 1) := by kernel_rfl
theorem zJc : cF Tryz.prog 90 = some (5, 1) := by kernel_rfl
theorem zGd : fR Tryz.prog 123 = some #[.int .u8 0, .int .u8 0] := by kernel_rfl
theorem zGc : fR Tryz.prog 124 = some #[.int .u8 0, .int .u8 0, .int .u8 0, .int .u8 0, .int .u8 0, .int .u8 0, .int .u8 0, .int .u8 0, .int .u8 0, .int .u8 0, .int .u8 0, .int .u8 0, .int .u8 0, .int .u8 0, .int .u8 0, .int .u8 0, .int .u8 0, .int .u8 0, .int .u8 0, .int .u8 0, .int .u8 0, .int .u8 0, .int .u8 0, .int .u8 0, .int .u8 0, .int .u8 0, .int .u8 0, .int .u8 0, .int .u8 0, .int .u8 0, .int .u8 0, .int .u8 0] := by kernel_rfl
theorem zH9 : fR Tryz.prog 29 = some #[.int .i64 0, .string ByteArray.empty, .string ByteArray.empty, .int .i64 0] := by kernel_rfl
theorem zt3 : fR Tryz.prog 3 = some #[.int .i64 0] := by kernel_rfl
theorem zH8 : fR Tryz.prog 35 = some #[.slice none 0 0, .slice none 0 0, .int .i64 0, .int .i64 0, .int .i64 0, .bool false] := by kernel_rfl
theorem qYm : fR Tryz.prog 37 = some #[.string ByteArray.empty, .bool false, .string ByteArray.empty, .string ByteArray.empty, .bool false, .bool false, .int .i64 0] := by kernel_rfl
theorem zH7 : fR Tryz.prog 44 = some #[.map none] := by kernel_rfl
theorem zH6 : fR Tryz.prog 47 = some #[.map none, .map none, .int .i64 0, .int .i64 0, .int .i64 0, .bool false] := by kernel_rfl
theorem zH5 : fR Tryz.prog 59 = some #[.slice none 0 0] := by kernel_rfl
theorem zH4 : fR Tryz.prog 65 = some #[.bool false, .string ByteArray.empty, .string ByteArray.empty, .bool false, .bool false, .int .i64 0] := by kernel_rfl
theorem zH3 : fR Tryz.prog 76 = some #[.string ByteArray.empty, .int .i64 0] := by kernel_rfl
theorem cl5 : aL Tryz.prog 5 = true := by kernel_rfl
theorem cl6 : aL Tryz.prog 6 = true := by kernel_rfl
theorem cl7 : aL Tryz.prog 7 = true := by kernel_rfl
theorem cl8 : aL Tryz.prog 8 = true := by kernel_rfl
theorem zKx : aL Tryz.prog 10 = true := by kernel_rfl
theorem zHv : aL Tryz.prog 11 = true := by kernel_rfl
theorem zF5 : aL Tryz.prog 12 = true := by kernel_rfl
theorem zHu : aL Tryz.prog 13 = true := by kernel_rfl
theorem zKu : aL Tryz.prog 14 = true := by kernel_rfl
theorem zKt : aL Tryz.prog 15 = true := by kernel_rfl
theorem zKs : aL Tryz.prog 16 = true := by kernel_rfl
theorem zMb : aL Tryz.prog 17 = true := by kernel_rfl
theorem zKr : aL Tryz.prog 18 = true := by kernel_rfl
theorem zMa : aL Tryz.prog 19 = true := by kernel_rfl
theorem zL9 : aL Tryz.prog 20 = true := by kernel_rfl
theorem zL8 : aL Tryz.prog 21 = true := by kernel_rfl
theorem zL7 : aL Tryz.prog 22 = true := by kernel_rfl
theorem zL6 : aL Tryz.prog 23 = true := by kernel_rfl
theorem zL5 : aL Tryz.prog 24 = true := by kernel_rfl
theorem zL4 : aL Tryz.prog 25 = true := by kernel_rfl
theorem zL3 : aL Tryz.prog 26 = true := by kernel_rfl
theorem zL2 : aL Tryz.prog 27 = true := by kernel_rfl
theorem zL1 : aL Tryz.prog 28 = true := by kernel_rfl
theorem zL0 : aL Tryz.prog 29 = true := by kernel_rfl
theorem zLz : aL Tryz.prog 30 = true := by kernel_rfl
theorem zLy : aL Tryz.prog 31 = true := by kernel_rfl
theorem zLx : aL Tryz.prog 32 = true := by kernel_rfl
theorem zLw : aL Tryz.prog 33 = true := by kernel_rfl
theorem zLv : aL Tryz.prog 34 = true := by kernel_rfl
theorem zLu : aL Tryz.prog 36 = true := by kernel_rfl
theorem tX : aL Tryz.prog 37 = true := by kernel_rfl
theorem zLt : aL Tryz.prog 39 = true := by kernel_rfl
theorem zLs : aL Tryz.prog 41 = true := by kernel_rfl
theorem zAd : aL Tryz.prog 43 = true := by kernel_rfl
theorem zEe : aL Tryz.prog 44 = true := by kernel_rfl
theorem qVm : aL Tryz.prog 45 = true := by kernel_rfl
theorem zF4 : aL Tryz.prog 46 = true := by kernel_rfl
theorem zAc : aL Tryz.prog 47 = true := by kernel_rfl
theorem zEd : aL Tryz.prog 48 = true := by kernel_rfl
theorem zAb : aL Tryz.prog 49 = true := by kernel_rfl
theorem zHt : aL Tryz.prog 50 = true := by kernel_rfl
theorem zAa : aL Tryz.prog 51 = true := by kernel_rfl
theorem qVl : aL Tryz.prog 52 = true := by kernel_rfl
theorem qTk : aL Tryz.prog 53 = true := by kernel_rfl
theorem zHs : aL Tryz.prog 54 = true := by kernel_rfl
theorem zEc : aL Tryz.prog 55 = true := by kernel_rfl
theorem zHr : aL Tryz.prog 56 = true := by kernel_rfl
theorem zHq : aL Tryz.prog 57 = true := by kernel_rfl
theorem qZ9 : aL Tryz.prog 58 = true := by kernel_rfl
theorem zKq : aL Tryz.prog 59 = true := by kernel_rfl
theorem zF3 : aL Tryz.prog 60 = true := by kernel_rfl
theorem zF2 : aL Tryz.prog 61 = true := by kernel_rfl
theorem zLr : aL Tryz.prog 62 = true := by kernel_rfl
theorem zLq : aL Tryz.prog 63 = true := by kernel_rfl
theorem zLp : aL Tryz.prog 64 = true := by kernel_rfl
theorem zLo : aL Tryz.prog 65 = true := by kernel_rfl
theorem zKp : aL Tryz.prog 66 = true := by kernel_rfl
theorem zKo : aL Tryz.prog 67 = true := by kernel_rfl
theorem zKn : aL Tryz.prog 68 = true := by kernel_rfl
theorem zLn : aL Tryz.prog 69 = true := by kernel_rfl
theorem zF1 : aL Tryz.prog 70 = true := by kernel_rfl
theorem zHp : aL Tryz.prog 71 = true := by kernel_rfl
theorem zLm : aL Tryz.prog 72 = true := by kernel_rfl
theorem zHo : aL Tryz.prog 73 = true := by kernel_rfl
theorem zLl : aL Tryz.prog 74 = true := by kernel_rfl
theorem zLk : aL Tryz.prog 75 = true := by kernel_rfl
theorem zLj : aL Tryz.prog 76 = true := by kernel_rfl
theorem zLi : aL Tryz.prog 79 = true := by kernel_rfl
theorem zHn : aL Tryz.prog 82 = true := by kernel_rfl
theorem zKm : aL Tryz.prog 83 = true := by kernel_rfl
theorem zLh : aL Tryz.prog 84 = true := by kernel_rfl
theorem zLg : aL Tryz.prog 85 = true := by kernel_rfl
theorem zLf : aL Tryz.prog 87 = true := by kernel_rfl
theorem zKw : aL Tryz.prog 101 = true := by kernel_rfl
theorem zEf : aL Tryz.prog 102 = true := by kernel_rfl
theorem zKv : aL Tryz.prog 110 = true := by kernel_rfl
attribute [push_cast] qBq qJl qBr qPu qPt qJk qEa qEb qJs qBw qB0 wT wE vR vX vV vU wD qBf vQ oG wC vW vY vZ wA wB vT vS uZ uY uT uU uV uW uX rW rR rY rX rV rU rT rS rZ qBu qBt vF vG vE qF qE qD kW kX rQ qA8 qA7 oE qC qAy vJ qAz qAx qAw qA0 vK qN8 qA2 qN7 qUn zBo qPa qFd vL qFe qFc qFb qE9 qUl vM qPb qN9 qE8 qFg qUm qFf qA1 qFa qPx qJn qJp qBs qJo qVj qPy qVi qPv qJm qPw qVh qA3 vN qA6 qA5 wP wN qUu qPf qFr qPg qF7 qBk qBj qPm qBg qBi qF8 qPn wG qBl qF9 wF qBh qTz qNo qTy qNn qD3
attribute [push_cast] List.take_succ_cons List.take_zero List.drop_succ_cons List.drop_zero true_and and_true Option.isSome_some List.getElem?_cons_zero List.getElem?_cons_succ List.length_cons List.length_nil cond_true cond_false Int.toNat_natCast Nat.mul_one Nat.add_zero Nat.zero_add Addr.add_lit bne_self_eq_false beq_self_eq_true Bool.not_true Bool.not_false List.size_toArray Array.getD_eq_getD_getElem? List.getElem?_toArray Option.getD_some decide_true decide_false eq_self Bool.true_beq Bool.false_beq List.getD_cons_zero List.getD_cons_succ List.map_cons List.map_nil List.set_cons_zero List.set_cons_succ List.replicate_zero List.toList_toArray List.all_toArray List.all_cons List.all_nil Bool.and_self Bool.and_true Bool.true_and Bool.and_false Bool.false_and List.length_map List.length_append List.length_replicate List.length_set List.cons_append List.nil_append qNc Option.isSome_some Option.isSome_none beq_true beq_false Bool.not_false Option.map_some Bool.true_or Bool.false_or Bool.or_true Bool.or_false Bool.false_xor Bool.true_xor and_self beq_self_eq_true qJh List.flatMap_cons List.flatMap_nil List.append_nil
attribute [push_cast] qWy zS zM zX zU qXo qMc qGw qSf qSe qMb zB5 qLl qRi qRh qRg qRj qRk qRf qW1 qLm qHn qHo zCi qMf qCz qMd yY qG2 qG3 qMe qG1 qGy qMg qGx qG7 qSj qG6 qCy qGz qSh qSk qG5 qSi qSg qMi qSp qSm qC9 qH6 qH5 qH7 qH8 qSn qSo qHw qHx qHv qHy qH1 qH3 qH2 qH4 qXp qHj qMn qHl qHk qV7 qMu qHz qLc qMj qXe iA qXb tK qK4 qFq qSr qSs qSt qH0 qSu qMo qHm qMp qMq qMr qHp qMt qHr qMs qHq qHh qC3 qC4 qHs qHt qMm qHg qHi qC1 qC2 qC5 qC6 qM3 qXw qSy qFm qCq qMa qGv qM2 qJd qR9 qL5 qJa qTn qNh qL6 qGu zCl qJb qJc qDd qDe qSq qFu qFw qFv qDf qLd qLf qLe qYf qWs qWt qLb qDg qS0 qS3 qS1 qS2 qLk qF5 zCt qXt qXu qMx qMy qMz qM0 qM1 qJ0 qDj qXv qSx qYe qK8 zKg zCq zGo zCp zCr qXn qSd zC4 qS5 zCj qR5 qR3 qR2 zKj zD0 qWo qHb qQ6 qC0 qWm qG9 qK7 yZ qWn qHa qHf qHe qHd qHc qKh tJ qAs qQl qQm qAu pK lW fM eG fD eC gZ hU hZ kD qU8 qBn fJ qGi pG gP qRz pH eF qLx lV fH fG fL fF qGh qRy qGj qGg pF pE pJ pD qNy qNz qN0 sU sW sX kB qTd zGh qYg qKu qE1 sY pP lX oQ lS qQd qKg qXs qXr qSv qXq zCm qSc qXl qL9 zCn qXm qL0 qCx qLy yT qGo qGp qLz qGn qGl qL2 qGq qR1 qXc qL3 qGm qL4 qGr qR0 qL1 qGk qCw qQz qQ0 qQ2 qQ4 qFn qQ5 qFo qFp qCr qK5 qCs qCh xN qE0 qQ1 qRv qLv qRu qLw qXa qRt qXj qL8 qSb qXk qGd qLu qGe qW9 qRs qKm qCf xJ qEp qEm qCe qEk qCb qEq qEr xD rK xC xB qY uF uG xE qEl xF uD uC uA qCd uH rJ uB xG qEt qEs qK1 qFl qFi qQw qFj qFk qR6 qCu qF1 xR qCj qXh qL7 qSa qXi qGb qLt qGc qW8 qRr qLr qLs qE4 xS qE2 uJ qCm qCn qE3 qCl qCi qE5 qCo qKx qQt qE6 qCk qKw qKv qNf qJ1 qG0 qC8 qMh qMv qSw qH9 qMw qDa xH rL qG4 zGp qDb
 qQ8 qLa zA1 qW7 qRp qLp qW2 qW4 qW3 qW6 qX7 qX2 qS9 qLq qW5 zCf zCg qKb qXx qK9 qX6 qX8 qM5 qX1 qX3 qS8 qNa qJt qV2 qP9 qV3 qJz ltT ltF leT leF eqT eqF pN zJb qD6 qKd
attribute [push_cast] bb4 zGr zGq zK2 zK1 zK0 zKz zKy zEh qX0 qXz zDx fQ sL sK zDw zDv zDu zDt zDs zDr zDq zDp zDo zDn zDm zDl zDk zDj zDi zDh zDg zDf zDe zDd zDc zDb zDa zC9 zC8 zC7 zC6 zC3 zC2 zGn zKe it3 it5 zKd zKc zGm zGl zKb kt3 zKa zJ9 zJ8 kt4 zJ7 zJ6 kt5 zJ5 zJ4 kt9 zJu qWi qWh qWg qWf qWe qWd qWc zBn zBm zBl zBk zBj zBi zBh zBg zBf zJs zJr zJq zJp zJo zJn st9 zGg zGf zGe ui3 ui5 zJm zJl ui9 zJk zJh zJg zJf zJe zJd zJc zGd zGc zH9 zt3 zH8 qYm zH7 zH6 zH5 zH4 zH3
attribute [push_cast] qBq qJl qBr qPu qPt qJk qEa qEb qJs qBw qB0 wT wE vR vX vV vU wD qBf vQ oG wC vW vY vZ wA wB vT vS uZ uY uT uU uV uW uX rW rR rY rX rV rU rT rS rZ qBu qBt vF vG vE qF qE qD kW kX rQ qA8 qA7 oE qC qAy vJ qAz qAx qAw qA0 vK qN8 qA2 qN7 qUn zBo qPa qFd vL qFe qFc qFb qE9 qUl vM qPb qN9 qE8 qFg qUm qFf qA1 qFa qPx qJn qJp qBs qJo qVj qPy qVi qPv qJm qPw qVh qA3 vN qA6 qA5 wP wN qUu qPf qFr qPg qF7 qBk qBj qPm qBg qBi qF8 qPn wG qBl qF9 wF qBh qTz qNo qTy qNn qD3
attribute [push_cast] List.take_succ_cons List.take_zero List.drop_succ_cons List.drop_zero true_and and_true Option.isSome_some List.getElem?_cons_zero List.getElem?_cons_succ List.length_cons List.length_nil cond_true cond_false Int.toNat_natCast Nat.mul_one Nat.add_zero Nat.zero_add Addr.add_lit bne_self_eq_false beq_self_eq_true Bool.not_true Bool.not_false List.size_toArray Array.getD_eq_getD_getElem? List.getElem?_toArray Option.getD_some decide_true decide_false eq_self Bool.true_beq Bool.false_beq List.getD_cons_zero List.getD_cons_succ List.map_cons List.map_nil List.set_cons_zero List.set_cons_succ List.replicate_zero List.toList_toArray List.all_toArray List.all_cons List.all_nil Bool.and_self Bool.and_true Bool.true_and Bool.and_false Bool.false_and List.length_map List.length_append List.length_replicate List.length_set List.cons_append List.nil_append qNc Option.isSome_some Option.isSome_none beq_true beq_false Bool.not_false Option.map_some Bool.true_or Bool.false_or Bool.or_true Bool.or_false Bool.false_xor Bool.true_xor and_self beq_self_eq_true qJh List.flatMap_cons List.flatMap_nil List.append_nil
attribute [push_cast] qWy zS zM zX zU qXo qMc qGw qSf qSe qMb zB5 qLl qRi qRh qRg qRj qRk qRf qW1 qLm qHn qHo zCi qMf qCz qMd yY qG2 qG3 qMe qG1 qGy qMg qGx qG7 qSj qG6 qCy qGz qSh qSk qG5 qSi qSg qMi qSp qSm qC9 qH6 qH5 qH7 qH8 qSn qSo qHw qHx qHv qHy qH1 qH3 qH2 qH4 qXp qHj qMn qHl qHk qV7 qMu qHz qLc qMj qXe iA qXb tK qK4 qFq qSr qSs qSt qH0 qSu qMo qHm qMp qMq qMr qHp qMt qHr qMs qHq qHh qC3 qC4 qHs qHt qMm qHg qHi qC1 qC2 qC5 qC6 qM3 qXw qSy qFm qCq qMa qGv qM2 qJd qR9 qL5 qJa qTn qNh qL6 qGu zCl qJb qJc qDd qDe qSq qFu qFw qFv qDf qLd qLf qLe qYf qWs qWt qLb qDg qS0 qS3 qS1 qS2 qLk qF5 zCt qXt qXu qMx qMy qMz qM0 qM1 qJ0 qDj qXv qSx qYe qK8 zKg zCq zGo zCp zCr qXn qSd zC4 qS5 zCj qR5 qR3 qR2 zKj zD0 qWo qHb qQ6 qC0 qWm qG9 qK7 yZ qWn qHa qHf qHe qHd qHc qKh tJ qAs qQl qQm qAu pK lW fM eG fD eC gZ hU hZ kD qU8 qBn fJ qGi pG gP qRz pH eF qLx lV fH fG fL fF qGh qRy qGj qGg pF pE pJ pD qNy qNz qN0 sU sW sX kB qTd zGh qYg qKu qE1 sY pP lX oQ lS qQd qKg qXs qXr qSv qXq zCm qSc qXl qL9 zCn qXm qL0 qCx qLy yT qGo qGp qLz qGn qGl qL2 qGq qR1 qXc qL3 qGm qL4 qGr qR0 qL1 qGk qCw qQz qQ0 qQ2 qQ4 qFn qQ5 qFo qFp qCr qK5 qCs qCh xN qE0 qQ1 qRv qLv qRu qLw qXa qRt qXj qL8 qSb qXk qGd qLu qGe qW9 qRs qKm qCf xJ qEp qEm qCe qEk qCb qEq qEr xD rK xC xB qY uF uG xE qEl xF uD uC uA qCd uH rJ uB xG qEt qEs qK1 qFl qFi qQw qFj qFk qR6 qCu qF1 xR qCj qXh qL7 qSa qXi qGb qLt qGc qW8 qRr qLr qLs qE4 xS qE2 uJ qCm qCn qE3 qCl qCi qE5 qCo qKx qQt qE6 qCk qKw qKv qNf qJ1 qG0 qC8 qMh qMv qSw qH9 qMw qDa xH rL qG4 zGp qDb
 qQ8 qLa zA1 qW7 qRp qLp qW2 qW4 qW3 qW6 qX7 qX2 qS9 qLq qW5 zCf zCg qKb qXx qK9 qX6 qX8 qM5 qX1 qX3 qS8 qNa qJt qV2 qP9 qV3 qJz ltT ltF leT leF eqT eqF pN zJb qD6 qKd
attribute [push_cast] bb4 zGr zGq zK2 zK1 zK0 zKz zKy zEh qX0 qXz zDx fQ sL sK zDw zDv zDu zDt zDs zDr zDq zDp zDo zDn zDm zDl zDk zDj zDi zDh zDg zDf zDe zDd zDc zDb zDa zC9 zC8 zC7 zC6 zC3 zC2 zGn zKe it3 it5 zKd zKc zGm zGl zKb kt3 zKa zJ9 zJ8 kt4 zJ7 zJ6 kt5 zJ5 zJ4 kt9 zJu qWi qWh qWg qWf qWe qWd qWc zBn zBm zBl zBk zBj zBi zBh zBg zBf zJs zJr zJq zJp zJo zJn st9 zGg zGf zGe ui3 ui5 zJm zJl ui9 zJk zJh zJg zJf zJe zJd zJc zGd zGc zH9 zt3 zH8 qYm zH7 zH6 zH5 zH4 zH3
attribute [push_cast] zFa yF qY5 yG zAf yL qZt zCb zCc zCd zCe Option.getD_some Option.map_some Option.map_none Nat.zero_add qU8 qGi qGh qGg qGj qNy qN0 qNz List.map_cons List.map_nil implies_true and_self true_and and_true true_implies false_implies Int.toNat_natCast Bool.or_true Bool.or_false Bool.and_true Bool.and_false
end Go.Proofs.YtojolcpblacjjaaGreatDoor
