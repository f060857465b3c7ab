/-
  Facts of the types, the functions' names.
-/
import Derived.Test.YtdfjeokjmigkaaaGreatGc
import Derived.Test.YtdfjeokjmigkaaaGreatProg
namespace Go.Proofs.YtdfjeokjmigkaaaGreat
open Go Go.Eng
theorem mixed : Tryz.prog.follows .mixedOrders = true := by kernel_rfl
theorem zV7 : qK4 Tryz.prog 65 = some 3 := by kernel_rfl
theorem zV6 : qK4 Tryz.prog 86 = some 3 := by kernel_rfl
theorem bb4 : qLz Tryz.prog 4 = true := by kernel_rfl
theorem zTt : cJ Tryz.prog 112 = true := by kernel_rfl
theorem zTs : cJ Tryz.prog 143 = true := by kernel_rfl
theorem zTr : cJ Tryz.prog 158 = true := by kernel_rfl
theorem zV5 : cJ Tryz.prog 31 = true := by kernel_rfl
theorem zV4 : cJ Tryz.prog 33 = true := by kernel_rfl
theorem zV3 : cJ Tryz.prog 50 = true := by kernel_rfl
theorem zV2 : cJ Tryz.prog 53 = true := by kernel_rfl
theorem zV1 : cJ Tryz.prog 65 = true := by kernel_rfl
theorem zV0 : cJ Tryz.prog 77 = true := by kernel_rfl
theorem zVz : cJ Tryz.prog 86 = true := by kernel_rfl
theorem zVy : cJ Tryz.prog 92 = true := by kernel_rfl
theorem zVx : cJ Tryz.prog 98 = true := by kernel_rfl
theorem zM7 : qKp Tryz.prog 9 106 = true := by kernel_rfl
theorem zMs : iU Tryz.prog 117 0 = some 0 := by kernel_rfl
theorem zMr : iU Tryz.prog 117 1 = some 1 := by kernel_rfl
theorem zMq : iU Tryz.prog 143 0 = some 0 := by kernel_rfl
theorem zMp : iU Tryz.prog 143 1 = some 1 := by kernel_rfl
theorem zMo : iU Tryz.prog 158 0 = some 0 := by kernel_rfl
theorem zMn : iU Tryz.prog 158 1 = some 1 := by kernel_rfl
theorem zRh : iU Tryz.prog 31 0 = some 0 := by kernel_rfl
theorem zRg : iU Tryz.prog 31 1 = some 1 := by kernel_rfl
theorem zRf : iU Tryz.prog 33 0 = some 0 := by kernel_rfl
theorem zRe : iU Tryz.prog 33 1 = some 1 := by kernel_rfl
theorem zRd : iU Tryz.prog 50 0 = some 0 := by kernel_rfl
theorem zRc : iU Tryz.prog 50 1 = some 1 := by kernel_rfl
theorem zRb : iU Tryz.prog 53 0 = some 0 := by kernel_rfl
theorem zRa : iU Tryz.prog 53 1 = some 1 := by kernel_rfl
theorem zQ9 : iU Tryz.prog 53 2 = some 2 := by kernel_rfl
theorem zQ8 : iU Tryz.prog 53 3 = some 3 := by kernel_rfl
theorem zQ7 : iU Tryz.prog 77 0 = some 0 := by kernel_rfl
theorem zQ6 : iU Tryz.prog 77 1 = some 1 := by kernel_rfl
theorem zQ5 : iU Tryz.prog 77 2 = some 2 := by kernel_rfl
theorem zQ4 : iU Tryz.prog 77 3 = some 3 := by kernel_rfl
theorem zQ3 : iU Tryz.prog 92 0 = some 0 := by kernel_rfl
theorem zQ2 : iU Tryz.prog 92 1 = some 1 := by kernel_rfl
theorem zQ1 : iU Tryz.prog 92 2 = some 2 := by kernel_rfl
theorem zQ0 : iU Tryz.prog 92 3 = some 3 := by kernel_rfl
theorem zQz : iU Tryz.prog 92 4 = some 4 := by kernel_rfl
theorem zQy : iU Tryz.prog 92 5 = some 5 := by kernel_rfl
theorem zQx : iU Tryz.prog 92 6 = some 6 := by kernel_rfl
theorem zQv : qEx Tryz.prog 33 0 = some (0, none) := by kernel_rfl
theorem zS6 : qNm Tryz.prog 103 = some .u64 := by kernel_rfl
theorem zS5 : qNm Tryz.prog 134 = some .u32 := by kernel_rfl
theorem zS4 : qNm Tryz.prog 136 = some .u64 := by kernel_rfl
theorem it3 : qNm Tryz.prog 3 = some .i64 := by kernel_rfl
theorem it5 : qNm Tryz.prog 5 = some .u8 := by kernel_rfl
theorem zS3 : bN Tryz.prog 106 = some none := by kernel_rfl
theorem zS2 : bN Tryz.prog 112 = some (some 2) := by kernel_rfl
theorem zS1 : bN Tryz.prog 115 = some none := by kernel_rfl
theorem zS0 : bN Tryz.prog 143 = some (some 2) := by kernel_rfl
theorem qZq : bN Tryz.prog 156 = some none := by kernel_rfl
theorem qAv : bN Tryz.prog 158 = some (some 2) := by kernel_rfl
theorem qMs : bN Tryz.prog 160 = some none := by kernel_rfl
theorem zU3 : bN Tryz.prog 22 = some none := by kernel_rfl
theorem zU2 : bN Tryz.prog 26 = some none := by kernel_rfl
theorem kt3 : bN Tryz.prog 3 = some none := by kernel_rfl
theorem zU1 : bN Tryz.prog 31 = some (some 2) := by kernel_rfl
theorem zSz : bN Tryz.prog 33 = some (some 2) := by kernel_rfl
theorem kt4 : bN Tryz.prog 4 = some none := by kernel_rfl
theorem kt5 : bN Tryz.prog 5 = some none := by kernel_rfl
theorem zU0 : bN Tryz.prog 50 = some (some 3) := by kernel_rfl
theorem zUz : bN Tryz.prog 53 = some (some 4) := by kernel_rfl
theorem zUy : bN Tryz.prog 59 = some none := by kernel_rfl
theorem zUx : bN Tryz.prog 64 = some none := by kernel_rfl
theorem zUw : bN Tryz.prog 73 = some none := by kernel_rfl
theorem zUv : bN Tryz.prog 77 = some (some 4) := by kernel_rfl
theorem zUu : bN Tryz.prog 88 = some none := by kernel_rfl
theorem kt9 : bN Tryz.prog 9 = some none := by kernel_rfl
theorem zUt : bN Tryz.prog 92 = some (some 7) := by kernel_rfl
theorem zSu : qGw Tryz.prog 115 = true := by kernel_rfl
theorem zK5 : dE Tryz.prog 112 0 = some (0, 1) := by kernel_rfl
theorem zK4 : dE Tryz.prog 112 1 = some (1, 1) := by kernel_rfl
theorem zK3 : dE Tryz.prog 143 0 = some (0, 1) := by kernel_rfl
theorem zK2 : dE Tryz.prog 143 1 = some (1, 1) := by kernel_rfl
theorem zK1 : dE Tryz.prog 158 0 = some (0, 1) := by kernel_rfl
theorem zK0 : dE Tryz.prog 158 1 = some (1, 1) := by kernel_rfl
theorem zP4 : dE Tryz.prog 31 0 = some (0, 1) := by kernel_rfl
theorem zP3 : dE Tryz.prog 31 1 = some (1, 1) := by kernel_rfl
theorem zP2 : dE Tryz.prog 33 0 = some (0, 1) := by kernel_rfl
theorem zP1 : dE Tryz.prog 33 1 = some (1, 1) := by kernel_rfl
theorem zP0 : dE Tryz.prog 50 0 = some (0, 1) := by kernel_rfl
theorem zPz : dE Tryz.prog 50 1 = some (1, 2) := by kernel_rfl
theorem zPy : dE Tryz.prog 53 0 = some (0, 1) := by kernel_rfl
theorem zPx : dE Tryz.prog 53 1 = some (1, 1) := by kernel_rfl
theorem zPw : dE Tryz.prog 53 2 = some (2, 1) := by kernel_rfl
theorem zPv : dE Tryz.prog 65 0 = some (0, 1) := by kernel_rfl
theorem zPu : dE Tryz.prog 65 1 = some (1, 1) := by kernel_rfl
theorem zPt : dE Tryz.prog 65 2 = some (2, 1) := by kernel_rfl
theorem zPs : dE Tryz.prog 77 0 = some (0, 1) := by kernel_rfl
theorem zPr : dE Tryz.prog 77 1 = some (1, 1) := by kernel_rfl
theorem zPq : dE Tryz.prog 77 2 = some (2, 1) := by kernel_rfl
theorem zPp : dE Tryz.prog 77 3 = some (3, 1) := by kernel_rfl
theorem zPo : dE Tryz.prog 86 0 = some (0, 1) := by kernel_rfl
theorem zPn : dE Tryz.prog 86 1 = some (1, 1) := by kernel_rfl
theorem zPm : dE Tryz.prog 86 2 = some (2, 1) := by kernel_rfl
theorem zPl : dE Tryz.prog 92 0 = some (0, 1) := by kernel_rfl
theorem zPk : dE Tryz.prog 92 1 = some (1, 1) := by kernel_rfl
theorem zPj : dE Tryz.prog 92 2 = some (2, 1) := by kernel_rfl
theorem zPi : dE Tryz.prog 98 0 = some (0, 1) := by kernel_rfl
theorem zPh : dE Tryz.prog 98 1 = some (1, 1) := by kernel_rfl
theorem zPg : dE Tryz.prog 98 2 = some (2, 1) := by kernel_rfl
theorem zSp : mB Tryz.prog 106 = some (5, 1, 1, #[.int .u8 0]) := by kernel_rfl
theorem zSo : mB Tryz.prog 108 = some (112, 2, 16, #[.int .i64 0, .int .i64 0]) := by kernel_rfl
theorem qZa : mB Tryz.prog 139 = some (143, 2, 16, #[.int .i64 0, .int .i64 0]) := by kernel_rfl
theorem zNz : mB Tryz.prog 156 = some (160, 1, 2, #[.int .i16 0]) := by kernel_rfl
theorem zSn : mB Tryz.prog 168 = some (88, 1, 24, #[.slice none 0 0]) := by kernel_rfl
theorem zUq : mB Tryz.prog 22 = some (50, 3, 40, #[.string ByteArray.empty, .int .i64 0, .string ByteArray.empty]) := by kernel_rfl
theorem zUp : mB Tryz.prog 26 = some (31, 2, 24, #[.string ByteArray.empty, .int .i64 0]) := by kernel_rfl
theorem zUo : mB Tryz.prog 59 = some (9, 1, 16, #[.string ByteArray.empty]) := by kernel_rfl
theorem zUn : mB Tryz.prog 73 = some (77, 4, 80, #[.bool false, .slice none 0 0, .slice none 0 0, .slice none 0 0]) := by kernel_rfl
theorem zUm : mB Tryz.prog 88 = some (3, 1, 8, #[.int .i64 0]) := by kernel_rfl
theorem zUl : mB Tryz.prog 96 = some (98, 3, 24, #[.int .i64 0, .int .i64 0, .int .i64 0]) := by kernel_rfl
theorem zSl : qAl Tryz.prog 106 = false := by kernel_rfl
theorem st9 : qAl Tryz.prog 9 = true := by kernel_rfl
theorem zSj : qNn Tryz.prog 112 = some (2, 1) := by kernel_rfl
theorem zUh : qNn Tryz.prog 98 = some (3, 1) := by kernel_rfl
theorem zSi : (Tryz.prog.underlying 103).isSome = true := by kernel_rfl
theorem zSh : (Tryz.prog.underlying 115).isSome = true := by kernel_rfl
theorem zSg : (Tryz.prog.underlying 134).isSome = true := by kernel_rfl
theorem zSf : (Tryz.prog.underlying 136).isSome = true := by kernel_rfl
theorem zSe : (Tryz.prog.underlying 165).isSome = true := by kernel_rfl
theorem ui3 : (Tryz.prog.underlying 3).isSome = true := by kernel_rfl
theorem ui5 : (Tryz.prog.underlying 5).isSome = true := by kernel_rfl
theorem ui9 : (Tryz.prog.underlying 9).isSome = true := by kernel_rfl
theorem zSc : bE Tryz.prog 106 = some (5, 1) := by kernel_rfl
theorem zSb : bE Tryz.prog 108 = some (112, 2) := by kernel_rfl
theorem qLy : bE Tryz.prog 139 = some (143, 2) := by kernel_rfl
theorem qLx : bE Tryz.prog 156 = some (160, 1) := by kernel_rfl
theorem zSa : bE Tryz.prog 168 = some (88, 1) := by kernel_rfl
theorem zUg : bE Tryz.prog 22 = some (50, 3) := by kernel_rfl
theorem zUf : bE Tryz.prog 26 = some (31, 2) := by kernel_rfl
theorem qC3 : bE Tryz.prog 59 = some (9, 1) := by kernel_rfl
theorem zUe : bE Tryz.prog 73 = some (77, 4) := by kernel_rfl
theorem zUd : bE Tryz.prog 88 = some (3, 1) := by kernel_rfl
theorem zUc : bE Tryz.prog 96 = some (98, 3) := by kernel_rfl
theorem zR8 : eR Tryz.prog 112 = some #[.int .i64 0, .int .i64 0] := by kernel_rfl
theorem zR7 : eR Tryz.prog 117 = some #[.pointer none, .slice none 0 0] := by kernel_rfl
theorem zR6 : eR Tryz.prog 143 = some #[.int .i64 0, .int .i64 0] := by kernel_rfl
theorem qQt : eR Tryz.prog 158 = some #[.int .i64 0, .slice none 0 0] := by kernel_rfl
theorem zt3 : eR Tryz.prog 3 = some #[.int .i64 0] := by kernel_rfl
theorem zUa : eR Tryz.prog 31 = some #[.string ByteArray.empty, .int .i64 0] := by kernel_rfl
theorem zT9 : eR Tryz.prog 33 = some #[.int .i64 0, .string ByteArray.empty] := by kernel_rfl
theorem zT8 : eR Tryz.prog 50 = some #[.string ByteArray.empty, .int .i64 0, .string ByteArray.empty] := by kernel_rfl
theorem zT7 : eR Tryz.prog 53 = some #[.slice none 0 0, .slice none 0 0, .slice none 0 0, .slice none 0 0] := by kernel_rfl
theorem zT6 : eR Tryz.prog 59 = some #[.slice none 0 0] := by kernel_rfl
theorem zT5 : eR Tryz.prog 64 = some #[.map none] := by kernel_rfl
theorem zT4 : eR Tryz.prog 65 = some #[.slice none 0 0, .slice none 0 0, .slice none 0 0] := by kernel_rfl
theorem zT3 : eR Tryz.prog 77 = some #[.bool false, .slice none 0 0, .slice none 0 0, .slice none 0 0] := by kernel_rfl
theorem zT2 : eR Tryz.prog 86 = some #[.string ByteArray.empty, .string ByteArray.empty, .string ByteArray.empty] := by kernel_rfl
theorem zT1 : eR Tryz.prog 92 = some #[.slice none 0 0, .slice none 0 0, .slice none 0 0, .int .i64 0, .int .i64 0, .int .i64 0, .slice none 0 0] := by kernel_rfl
theorem zT0 : eR Tryz.prog 98 = some #[.int .i64 0, .int .i64 0, .int .i64 0] := by kernel_rfl
theorem cl9 : aE Tryz.prog 9 = true := by kernel_rfl
theorem qYo : aE Tryz.prog 10 = true := by kernel_rfl
theorem zEb : aE Tryz.prog 12 = true := by kernel_rfl
theorem zVw : aE Tryz.prog 14 = true := by kernel_rfl
theorem zJq : aE Tryz.prog 16 = true := by kernel_rfl
theorem zVv : aE Tryz.prog 17 = true := by kernel_rfl
theorem zVu : aE Tryz.prog 19 = true := by kernel_rfl
theorem qLs : aE Tryz.prog 22 = true := by kernel_rfl
theorem zEa : aE Tryz.prog 23 = true := by kernel_rfl
theorem qTq : aE Tryz.prog 24 = true := by kernel_rfl
theorem zM6 : aE Tryz.prog 25 = true := by kernel_rfl
theorem zM5 : aE Tryz.prog 26 = true := by kernel_rfl
theorem zD9 : aE Tryz.prog 27 = true := by kernel_rfl
theorem zRv : aE Tryz.prog 28 = true := by kernel_rfl
theorem zVt : aE Tryz.prog 32 = true := by kernel_rfl
theorem zVs : aE Tryz.prog 34 = true := by kernel_rfl
theorem zVr : aE Tryz.prog 35 = true := by kernel_rfl
theorem zJp : aE Tryz.prog 36 = true := by kernel_rfl
theorem zRu : aE Tryz.prog 37 = true := by kernel_rfl
theorem zVq : aE Tryz.prog 38 = true := by kernel_rfl
theorem zVp : aE Tryz.prog 39 = true := by kernel_rfl
theorem zVo : aE Tryz.prog 40 = true := by kernel_rfl
theorem zVn : aE Tryz.prog 41 = true := by kernel_rfl
theorem zVm : aE Tryz.prog 42 = true := by kernel_rfl
theorem zVl : aE Tryz.prog 43 = true := by kernel_rfl
theorem zVk : aE Tryz.prog 44 = true := by kernel_rfl
theorem zRt : aE Tryz.prog 45 = true := by kernel_rfl
theorem zD8 : aE Tryz.prog 46 = true := by kernel_rfl
theorem zTj : aE Tryz.prog 47 = true := by kernel_rfl
theorem zRs : aE Tryz.prog 52 = true := by kernel_rfl
theorem zVj : aE Tryz.prog 53 = true := by kernel_rfl
theorem zVi : aE Tryz.prog 54 = true := by kernel_rfl
theorem zVh : aE Tryz.prog 55 = true := by kernel_rfl
theorem zRr : aE Tryz.prog 59 = true := by kernel_rfl
theorem zRq : aE Tryz.prog 60 = true := by kernel_rfl
theorem qQj : aE Tryz.prog 61 = true := by kernel_rfl
theorem zD7 : aE Tryz.prog 62 = true := by kernel_rfl
theorem zRp : aE Tryz.prog 63 = true := by kernel_rfl
theorem zRo : aE Tryz.prog 64 = true := by kernel_rfl
theorem zTi : aE Tryz.prog 65 = true := by kernel_rfl
theorem zM4 : aE Tryz.prog 66 = true := by kernel_rfl
theorem zRn : aE Tryz.prog 67 = true := by kernel_rfl
theorem zVg : aE Tryz.prog 68 = true := by kernel_rfl
theorem zVf : aE Tryz.prog 69 = true := by kernel_rfl
theorem zRm : aE Tryz.prog 73 = true := by kernel_rfl
theorem zTh : aE Tryz.prog 74 = true := by kernel_rfl
theorem zVe : aE Tryz.prog 78 = true := by kernel_rfl
theorem zVd : aE Tryz.prog 79 = true := by kernel_rfl
theorem zVc : aE Tryz.prog 80 = true := by kernel_rfl
theorem zVb : aE Tryz.prog 81 = true := by kernel_rfl
theorem zVa : aE Tryz.prog 82 = true := by kernel_rfl
theorem zU9 : aE Tryz.prog 83 = true := by kernel_rfl
theorem zRl : aE Tryz.prog 84 = true := by kernel_rfl
theorem zU8 : aE Tryz.prog 90 = true := by kernel_rfl
theorem zTq : aE Tryz.prog 105 = true := by kernel_rfl
theorem zJr : aE Tryz.prog 106 = true := by kernel_rfl
theorem zTp : aE Tryz.prog 107 = true := by kernel_rfl
theorem zTo : aE Tryz.prog 108 = true := by kernel_rfl
theorem zTn : aE Tryz.prog 109 = true := by kernel_rfl
theorem zTm : aE Tryz.prog 110 = true := by kernel_rfl
theorem zTl : aE Tryz.prog 126 = true := by kernel_rfl
theorem qTr : aE Tryz.prog 127 = true := by kernel_rfl
theorem zTk : aE Tryz.prog 129 = true := by kernel_rfl
attribute [push_cast] qQb qE0 qCj qHi qHh qEz qDt qDu qE6 qCs qCy yZ xM wY xE xC xB xL qB7 wX oG xK xD xF xG xH xJ xA wZ vV vU vP vQ vR vS vT sG rZ sK sJ sF sE sD sC sL qCo qCn wE wF wD pK pJ pH lD lE rY qBz qBy oE pG qBn wG qBo qBm qBl qBp wJ qG4 qBr qG3 qPn qZi qG6 qD3 wK qD4 qD2 qD1 qDz qPl wL qG7 qG5 qDy qD6 qPm qD5 qBq qD0 qHl qE2 qE4 qCk qE3 qQe qHm qQd qHj qE1 qHk qQc qBt wM qBx qBw xX xW qPr qG8 qD8 qG9 qEh qCd qCc qHf qB9 qCb qEi qHg xP qCe qEj xN qCa qNi qG0 qNg qGz qDs
attribute [push_cast] List.take_succ_cons List.take_zero List.drop_succ_cons List.drop_zero true_and and_true Option.isSome_some List.getElem?_cons_zero List.getElem?_cons_succ List.length_cons List.length_nil cond_true cond_false Int.toNat_natCast Nat.mul_one Nat.add_zero Nat.zero_add Addr.add_lit bne_self_eq_false beq_self_eq_true Bool.not_true Bool.not_false List.size_toArray Array.getD_eq_getD_getElem? List.getElem?_toArray Option.getD_some decide_true decide_false eq_self Bool.true_beq Bool.false_beq List.getD_cons_zero List.getD_cons_succ List.map_cons List.map_nil List.set_cons_zero List.set_cons_succ List.replicate_zero List.toList_toArray List.all_toArray List.all_cons List.all_nil Bool.and_self Bool.and_true Bool.true_and Bool.and_false Bool.false_and List.length_map List.length_append List.length_replicate List.length_set List.cons_append List.nil_append zD5 Option.isSome_some Option.isSome_none beq_true beq_false Bool.not_false Option.map_some Bool.true_or Bool.false_or Bool.or_true Bool.or_false Bool.false_xor Bool.true_xor and_self beq_self_eq_true qYe List.flatMap_cons List.flatMap_nil List.append_nil
attribute [push_cast] qZo zS zM zX zU zMa zC5 qWu zHj zHi zC4 zQc zB6 zGk zGj zGi zGl zGm zGh zLo zB7 qXk qXl zQg zC8 qSs zC6 qP5 qW0 qW1 zC7 qWz qWw zC9 qWv qW5 zHn qW4 qSr qWx zHl zHo qW3 zHm zHk zDb zHu zHr qS3 qX3 qX2 qX4 qX5 zHs zHt qXs qXt qXr qXu qXx qXz qXy qX0 zMb qXg zDe qXi qXh zKv zDl qXv zBx zDc zL1 rD jZ gF zBn qVs zHw zHx zHy qXw zHz zDf qXj zDg zDh zDi qXm zDk qXo zDj qXn qXe qSy qSz qXp qXq zDd qXd qXf qSw qSx qS0 qS1 zDu zMi zH3 qVo qRr zC3 qWt zDt qYa zHc zCy qX7 zJz zEl zCz qWr zQk qX8 qX9 qS6 qS7 zHv qVt qVv qVu qS9 zBy zB0 zBz zNi zLi zLj zBw qTa zH4 zH7 zH5 zH6 zB5 qV3 zQs zMf zMg zDo zDp zDq zDr zDs qYs qTy zMh zH2 zNg zBr zU6 zQp zS7 zQo zQq zL9 zHh zQw zJb zQh zHa zG9 zG8 zTd zJh zLb qW8 zF2 qSu zK9 qW6 zBq qP6 zLa qW7 qXc qXb qXa qW9 zAy qHc qPb zE6 zE7 qPd qEm qCg nZ lR nC lL qV qW qX xS rC jD nT jG dW qCh zG5 dX lQ iS cW nR nQ nU nP jF kR jH jE dV dU dY dT mF mG mH fY fZ gC wT zJk zSk zNj zBg qVa gD dZ cX dR cT uL qC zMe zMd zH0 zMc zQm zHf zL7 zC2 zQn zL8 zCs qSo zCq qP3 qWn qWo zCr qWm qWk zCu qWp zG7 zL0 zCv qWl zCw qWq zG6 zCt qWj qSn zFq zFs zFu zFv qVp zFx qVq qVr qRv zBo qRw qRh qPc qU7 zFt zG4 zCo zG3 zCp zLz zG2 zL5 zC1 zHe zL6 qWh zCn qWi zLy zG1 zA4 qRd qN6 qUy qUx qRc qUv qQ9 qUz qU0 qN1 qH4 qN0 qNz qGx qLi qLj qN2 qUw qN3 qLh qLg qLe qRb qLk qH3 qLf qN4 qU2 qU1 zBk qVl qVi zFm qVj qVk zHb qR2 qV0 qPi qRk zL3 zC0 zHd zL4 qWf zCm qWg zLx zG0 zCk zCl qVd qPj qVb qLn qRn qRo qVc qRm qRj qVe qRp zBj zFi qVf qRl zBi zBh zEk qYx qWy qS2 zDa zDm zH1 qX6 zDn qS4 qN5 qH6 qW2 zTb qS5
 zF6 zBu zPc zLv zGy zCb zLq zLs zLr zLu zM2 zMu zJg zCc zLt zQe zQf zAn zMj zBs zM1 zM3 zDy zMt zMv zJf zD1 qYl zKj zEz zKk qYn ltT ltF leT leF eqT eqF oT zR9 qUh zAp
attribute [push_cast] zV7 zV6 bb4 zTt zTs zTr zV5 zV4 zV3 zV2 zV1 zV0 zVz zVy zVx zM7 zMs zMr zMq zMp zMo zMn zRh zRg zRf zRe zRd zRc zRb zRa zQ9 zQ8 zQ7 zQ6 zQ5 zQ4 zQ3 zQ2 zQ1 zQ0 zQz zQy zQx zQv zS6 zS5 zS4 it3 it5 zS3 zS2 zS1 zS0 qZq qAv qMs zU3 zU2 kt3 zU1 zSz kt4 kt5 zU0 zUz zUy zUx zUw zUv zUu kt9 zUt zSu zK5 zK4 zK3 zK2 zK1 zK0 zP4 zP3 zP2 zP1 zP0 zPz zPy zPx zPw zPv zPu zPt zPs zPr zPq zPp zPo zPn zPm zPl zPk zPj zPi zPh zPg zSp zSo qZa zNz zSn zUq zUp zUo zUn zUm zUl zSl st9 zSj zUh zSi zSh zSg zSf zSe ui3 ui5 ui9 zSc zSb qLy qLx zSa zUg zUf qC3 zUe zUd zUc zR8 zR7 zR6 qQt zt3 zUa zT9 zT8 zT7 zT6 zT5 zT4 zT3 zT2 zT1 zT0
attribute [push_cast] zK6 yF zA7 yG zEh yL zB9 zGs zGt zGu zGv Option.getD_some Option.map_some Option.map_none Nat.zero_add rC jG jF jE jH mF mH mG List.map_cons List.map_nil implies_true and_self true_and and_true true_implies false_implies Int.toNat_natCast Bool.or_true Bool.or_false Bool.and_true Bool.and_false
end Go.Proofs.YtdfjeokjmigkaaaGreat
