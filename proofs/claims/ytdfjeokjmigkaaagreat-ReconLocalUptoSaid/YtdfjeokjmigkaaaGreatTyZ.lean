/-
  Facts of the types, the functions' names.
-/
import Derived.Test.YtdfjeokjmigkaaaGreatGc
import Derived.Test.YtdfjeokjmigkaaaGreatProg
namespace Go.Proofs.YtdfjeokjmigkaaaGreat
open Go Go.Eng
theorem mixed : Tryz.prog.follows .mixedOrders = true := by kernel_rfl
theorem zUe : qJy Tryz.prog 65 = some 3 := by kernel_rfl
theorem zUd : qJy Tryz.prog 86 = some 3 := by kernel_rfl
theorem bb4 : qKq Tryz.prog 4 = true := by kernel_rfl
theorem zR0 : cG Tryz.prog 112 = true := by kernel_rfl
theorem zRz : cG Tryz.prog 143 = true := by kernel_rfl
theorem zRy : cG Tryz.prog 158 = true := by kernel_rfl
theorem zUc : cG Tryz.prog 31 = true := by kernel_rfl
theorem zUb : cG Tryz.prog 33 = true := by kernel_rfl
theorem zUa : cG Tryz.prog 50 = true := by kernel_rfl
theorem zT9 : cG Tryz.prog 53 = true := by kernel_rfl
theorem zT8 : cG Tryz.prog 65 = true := by kernel_rfl
theorem zT7 : cG Tryz.prog 77 = true := by kernel_rfl
theorem zT6 : cG Tryz.prog 86 = true := by kernel_rfl
theorem zT5 : cG Tryz.prog 92 = true := by kernel_rfl
theorem zT4 : cG Tryz.prog 98 = true := by kernel_rfl
theorem zLe : qJl Tryz.prog 9 106 = true := by kernel_rfl
theorem zK0 : hZ Tryz.prog 117 0 = some 0 := by kernel_rfl
theorem zKz : hZ Tryz.prog 117 1 = some 1 := by kernel_rfl
theorem zKy : hZ Tryz.prog 143 0 = some 0 := by kernel_rfl
theorem zKx : hZ Tryz.prog 143 1 = some 1 := by kernel_rfl
theorem zKw : hZ Tryz.prog 158 0 = some 0 := by kernel_rfl
theorem zKv : hZ Tryz.prog 158 1 = some 1 := by kernel_rfl
theorem zPk : hZ Tryz.prog 31 0 = some 0 := by kernel_rfl
theorem zPj : hZ Tryz.prog 31 1 = some 1 := by kernel_rfl
theorem zPi : hZ Tryz.prog 33 0 = some 0 := by kernel_rfl
theorem zPh : hZ Tryz.prog 33 1 = some 1 := by kernel_rfl
theorem zPg : hZ Tryz.prog 50 0 = some 0 := by kernel_rfl
theorem zPf : hZ Tryz.prog 50 1 = some 1 := by kernel_rfl
theorem zPe : hZ Tryz.prog 53 0 = some 0 := by kernel_rfl
theorem zPd : hZ Tryz.prog 53 1 = some 1 := by kernel_rfl
theorem zPc : hZ Tryz.prog 53 2 = some 2 := by kernel_rfl
theorem zPb : hZ Tryz.prog 53 3 = some 3 := by kernel_rfl
theorem zPa : hZ Tryz.prog 77 0 = some 0 := by kernel_rfl
theorem zN9 : hZ Tryz.prog 77 1 = some 1 := by kernel_rfl
theorem zN8 : hZ Tryz.prog 77 2 = some 2 := by kernel_rfl
theorem zN7 : hZ Tryz.prog 77 3 = some 3 := by kernel_rfl
theorem zN6 : hZ Tryz.prog 92 0 = some 0 := by kernel_rfl
theorem zN5 : hZ Tryz.prog 92 1 = some 1 := by kernel_rfl
theorem zN4 : hZ Tryz.prog 92 2 = some 2 := by kernel_rfl
theorem zN3 : hZ Tryz.prog 92 3 = some 3 := by kernel_rfl
theorem zN2 : hZ Tryz.prog 92 4 = some 4 := by kernel_rfl
theorem zN1 : hZ Tryz.prog 92 5 = some 5 := by kernel_rfl
theorem zN0 : hZ Tryz.prog 92 6 = some 6 := by kernel_rfl
theorem zNy : qDy Tryz.prog 33 0 = some (0, none) := by kernel_rfl
theorem zRb : qL9 Tryz.prog 103 = some .u64 := by kernel_rfl
theorem zRa : qL9 Tryz.prog 134 = some .u32 := by kernel_rfl
theorem zQ9 : qL9 Tryz.prog 136 = some .u64 := by kernel_rfl
theorem it3 : qL9 Tryz.prog 3 = some .i64 := by kernel_rfl
theorem it5 : qL9 Tryz.prog 5 = some .u8 := by kernel_rfl
theorem zQ8 : bJ Tryz.prog 106 = some none := by kernel_rfl
theorem zQ7 : bJ Tryz.prog 112 = some (some 2) := by kernel_rfl
theorem zQ6 : bJ Tryz.prog 115 = some none := by kernel_rfl
theorem zQ5 : bJ Tryz.prog 143 = some (some 2) := by kernel_rfl
theorem qX0 : bJ Tryz.prog 156 = some none := by kernel_rfl
theorem xR : bJ Tryz.prog 158 = some (some 2) := by kernel_rfl
theorem qLg : bJ Tryz.prog 160 = some none := by kernel_rfl
theorem zTa : bJ Tryz.prog 22 = some none := by kernel_rfl
theorem zS9 : bJ Tryz.prog 26 = some none := by kernel_rfl
theorem kt3 : bJ Tryz.prog 3 = some none := by kernel_rfl
theorem zS8 : bJ Tryz.prog 31 = some (some 2) := by kernel_rfl
theorem zQ4 : bJ Tryz.prog 33 = some (some 2) := by kernel_rfl
theorem kt4 : bJ Tryz.prog 4 = some none := by kernel_rfl
theorem kt5 : bJ Tryz.prog 5 = some none := by kernel_rfl
theorem zS7 : bJ Tryz.prog 50 = some (some 3) := by kernel_rfl
theorem zS6 : bJ Tryz.prog 53 = some (some 4) := by kernel_rfl
theorem zS5 : bJ Tryz.prog 59 = some none := by kernel_rfl
theorem zS4 : bJ Tryz.prog 64 = some none := by kernel_rfl
theorem zS3 : bJ Tryz.prog 73 = some none := by kernel_rfl
theorem zS2 : bJ Tryz.prog 77 = some (some 4) := by kernel_rfl
theorem zS1 : bJ Tryz.prog 88 = some none := by kernel_rfl
theorem kt9 : bJ Tryz.prog 9 = some none := by kernel_rfl
theorem zS0 : bJ Tryz.prog 92 = some (some 7) := by kernel_rfl
theorem zQz : qFw Tryz.prog 115 = true := by kernel_rfl
theorem zJd : cY Tryz.prog 112 0 = some (0, 1) := by kernel_rfl
theorem zJc : cY Tryz.prog 112 1 = some (1, 1) := by kernel_rfl
theorem zJb : cY Tryz.prog 143 0 = some (0, 1) := by kernel_rfl
theorem zJa : cY Tryz.prog 143 1 = some (1, 1) := by kernel_rfl
theorem zH9 : cY Tryz.prog 158 0 = some (0, 1) := by kernel_rfl
theorem zH8 : cY Tryz.prog 158 1 = some (1, 1) := by kernel_rfl
theorem zNa : cY Tryz.prog 31 0 = some (0, 1) := by kernel_rfl
theorem zM9 : cY Tryz.prog 31 1 = some (1, 1) := by kernel_rfl
theorem zM8 : cY Tryz.prog 33 0 = some (0, 1) := by kernel_rfl
theorem zM7 : cY Tryz.prog 33 1 = some (1, 1) := by kernel_rfl
theorem zM6 : cY Tryz.prog 50 0 = some (0, 1) := by kernel_rfl
theorem zM5 : cY Tryz.prog 50 1 = some (1, 2) := by kernel_rfl
theorem zM4 : cY Tryz.prog 53 0 = some (0, 1) := by kernel_rfl
theorem zM3 : cY Tryz.prog 53 1 = some (1, 1) := by kernel_rfl
theorem zM2 : cY Tryz.prog 53 2 = some (2, 1) := by kernel_rfl
theorem zM1 : cY Tryz.prog 65 0 = some (0, 1) := by kernel_rfl
theorem zM0 : cY Tryz.prog 65 1 = some (1, 1) := by kernel_rfl
theorem zMz : cY Tryz.prog 65 2 = some (2, 1) := by kernel_rfl
theorem zMy : cY Tryz.prog 77 0 = some (0, 1) := by kernel_rfl
theorem zMx : cY Tryz.prog 77 1 = some (1, 1) := by kernel_rfl
theorem zMw : cY Tryz.prog 77 2 = some (2, 1) := by kernel_rfl
theorem zMv : cY Tryz.prog 77 3 = some (3, 1) := by kernel_rfl
theorem zMu : cY Tryz.prog 86 0 = some (0, 1) := by kernel_rfl
theorem zMt : cY Tryz.prog 86 1 = some (1, 1) := by kernel_rfl
theorem zMs : cY Tryz.prog 86 2 = some (2, 1) := by kernel_rfl
theorem zMr : cY Tryz.prog 92 0 = some (0, 1) := by kernel_rfl
theorem zMq : cY Tryz.prog 92 1 = some (1, 1) := by kernel_rfl
theorem zMp : cY Tryz.prog 92 2 = some (2, 1) := by kernel_rfl
theorem zMo : cY Tryz.prog 98 0 = some (0, 1) := by kernel_rfl
theorem zMn : cY Tryz.prog 98 1 = some (1, 1) := by kernel_rfl
theorem zMm : cY Tryz.prog 98 2 = some (2, 1) := by kernel_rfl
theorem zQw : kY Tryz.prog 106 = some (5, 1, 1, #[.int .u8 0]) := by kernel_rfl
theorem zQv : kY Tryz.prog 108 = some (112, 2, 16, #[.int .i64 0, .int .i64 0]) := by kernel_rfl
theorem qXn : kY Tryz.prog 139 = some (143, 2, 16, #[.int .i64 0, .int .i64 0]) := by kernel_rfl
theorem zL6 : kY Tryz.prog 156 = some (160, 1, 2, #[.int .i16 0]) := by kernel_rfl
theorem zQu : kY Tryz.prog 168 = some (88, 1, 24, #[.slice none 0 0]) := by kernel_rfl
theorem zSx : kY Tryz.prog 22 = some (50, 3, 40, #[.string ByteArray.empty, .int .i64 0, .string ByteArray.empty]) := by kernel_rfl
theorem zSw : kY Tryz.prog 26 = some (31, 2, 24, #[.string ByteArray.empty, .int .i64 0]) := by kernel_rfl
theorem zSv : kY Tryz.prog 59 = some (9, 1, 16, #[.string ByteArray.empty]) := by kernel_rfl
theorem zSu : kY Tryz.prog 73 = some (77, 4, 80, #[.bool false, .slice none 0 0, .slice none 0 0, .slice none 0 0]) := by kernel_rfl
theorem zSt : kY Tryz.prog 88 = some (3, 1, 8, #[.int .i64 0]) := by kernel_rfl
theorem zSs : kY Tryz.prog 96 = some (98, 3, 24, #[.int .i64 0, .int .i64 0, .int .i64 0]) := by kernel_rfl
theorem zQs : xF Tryz.prog 106 = false := by kernel_rfl
theorem st9 : xF Tryz.prog 9 = true := by kernel_rfl
theorem zQq : qMa Tryz.prog 112 = some (2, 1) := by kernel_rfl
theorem zSo : qMa Tryz.prog 98 = some (3, 1) := by kernel_rfl
theorem zQp : (Tryz.prog.underlying 103).isSome = true := by kernel_rfl
theorem zQo : (Tryz.prog.underlying 115).isSome = true := by kernel_rfl
theorem zQn : (Tryz.prog.underlying 134).isSome = true := by kernel_rfl
theorem zQm : (Tryz.prog.underlying 136).isSome = true := by kernel_rfl
theorem zQl : (Tryz.prog.underlying 165).isSome = true := by kernel_rfl
theorem ui3 : (Tryz.prog.underlying 3).isSome = true := by kernel_rfl
theorem ui5 : (Tryz.prog.underlying 5).isSome = true := by kernel_rfl
theorem ui9 : (Tryz.prog.underlying 9).isSome = true := by kernel_rfl
theorem zQi : aY Tryz.prog 106 = some (5, 1) := by kernel_rfl
theorem zQh : aY Tryz.prog 108 = some (112, 2) := by kernel_rfl
theorem qKp : aY Tryz.prog 139 = some (143, 2) := by kernel_rfl
theorem qKo : aY Tryz.prog 156 = some (160, 1) := by kernel_rfl
theorem zQg : aY Tryz.prog 168 = some (88, 1) := by kernel_rfl
theorem zSn : aY Tryz.prog 22 = some (50, 3) := by kernel_rfl
theorem zSm : aY Tryz.prog 26 = some (31, 2) := by kernel_rfl
theorem qB2 : aY Tryz.prog 59 = some (9, 1) := by kernel_rfl
theorem zSl : aY Tryz.prog 73 = some (77, 4) := by kernel_rfl
theorem zSk : aY Tryz.prog 88 = some (3, 1) := by kernel_rfl
theorem zSj : aY Tryz.prog 96 = some (98, 3) := by kernel_rfl
theorem zQe : eD Tryz.prog 112 = some #[.int .i64 0, .int .i64 0] := by kernel_rfl
theorem zQd : eD Tryz.prog 117 = some #[.pointer none, .slice none 0 0] := by kernel_rfl
theorem zQc : eD Tryz.prog 143 = some #[.int .i64 0, .int .i64 0] := by kernel_rfl
theorem qPe : eD Tryz.prog 158 = some #[.int .i64 0, .slice none 0 0] := by kernel_rfl
theorem zt3 : eD Tryz.prog 3 = some #[.int .i64 0] := by kernel_rfl
theorem zSh : eD Tryz.prog 31 = some #[.string ByteArray.empty, .int .i64 0] := by kernel_rfl
theorem zSg : eD Tryz.prog 33 = some #[.int .i64 0, .string ByteArray.empty] := by kernel_rfl
theorem zSf : eD Tryz.prog 50 = some #[.string ByteArray.empty, .int .i64 0, .string ByteArray.empty] := by kernel_rfl
theorem zSe : eD Tryz.prog 53 = some #[.slice none 0 0, .slice none 0 0, .slice none 0 0, .slice none 0 0] := by kernel_rfl
theorem zSd : eD Tryz.prog 59 = some #[.slice none 0 0] := by kernel_rfl
theorem zSc : eD Tryz.prog 64 = some #[.map none] := by kernel_rfl
theorem zSb : eD Tryz.prog 65 = some #[.slice none 0 0, .slice none 0 0, .slice none 0 0] := by kernel_rfl
theorem zSa : eD Tryz.prog 77 = some #[.bool false, .slice none 0 0, .slice none 0 0, .slice none 0 0] := by kernel_rfl
theorem zR9 : eD Tryz.prog 86 = some #[.string ByteArray.empty, .string ByteArray.empty, .string ByteArray.empty] := by kernel_rfl
theorem zR8 : eD Tryz.prog 92 = some #[.slice none 0 0, .slice none 0 0, .slice none 0 0, .int .i64 0, .int .i64 0, .int .i64 0, .slice none 0 0] := by kernel_rfl
theorem zR7 : eD Tryz.prog 98 = some #[.int .i64 0, .int .i64 0, .int .i64 0] := by kernel_rfl
theorem cl9 : aD Tryz.prog 9 = true := by kernel_rfl
theorem zP2 : aD Tryz.prog 10 = true := by kernel_rfl
theorem zP1 : aD Tryz.prog 12 = true := by kernel_rfl
theorem zT3 : aD Tryz.prog 14 = true := by kernel_rfl
theorem zGz : aD Tryz.prog 16 = true := by kernel_rfl
theorem zT2 : aD Tryz.prog 17 = true := by kernel_rfl
theorem zT1 : aD Tryz.prog 19 = true := by kernel_rfl
theorem qSa : aD Tryz.prog 22 = true := by kernel_rfl
theorem zP0 : aD Tryz.prog 23 = true := by kernel_rfl
theorem zRq : aD Tryz.prog 25 = true := by kernel_rfl
theorem zRp : aD Tryz.prog 26 = true := by kernel_rfl
theorem zCn : aD Tryz.prog 27 = true := by kernel_rfl
theorem zPz : aD Tryz.prog 28 = true := by kernel_rfl
theorem zT0 : aD Tryz.prog 32 = true := by kernel_rfl
theorem zTz : aD Tryz.prog 34 = true := by kernel_rfl
theorem zTy : aD Tryz.prog 35 = true := by kernel_rfl
theorem zGy : aD Tryz.prog 36 = true := by kernel_rfl
theorem zPy : aD Tryz.prog 37 = true := by kernel_rfl
theorem zTx : aD Tryz.prog 38 = true := by kernel_rfl
theorem zTw : aD Tryz.prog 39 = true := by kernel_rfl
theorem zTv : aD Tryz.prog 40 = true := by kernel_rfl
theorem zTu : aD Tryz.prog 41 = true := by kernel_rfl
theorem zTt : aD Tryz.prog 42 = true := by kernel_rfl
theorem zTs : aD Tryz.prog 43 = true := by kernel_rfl
theorem zTr : aD Tryz.prog 44 = true := by kernel_rfl
theorem zPx : aD Tryz.prog 45 = true := by kernel_rfl
theorem zCm : aD Tryz.prog 46 = true := by kernel_rfl
theorem zRo : aD Tryz.prog 47 = true := by kernel_rfl
theorem zPw : aD Tryz.prog 52 = true := by kernel_rfl
theorem zTq : aD Tryz.prog 53 = true := by kernel_rfl
theorem zTp : aD Tryz.prog 54 = true := by kernel_rfl
theorem zTo : aD Tryz.prog 55 = true := by kernel_rfl
theorem zPv : aD Tryz.prog 59 = true := by kernel_rfl
theorem zPu : aD Tryz.prog 60 = true := by kernel_rfl
theorem qN2 : aD Tryz.prog 61 = true := by kernel_rfl
theorem zCl : aD Tryz.prog 62 = true := by kernel_rfl
theorem zPt : aD Tryz.prog 63 = true := by kernel_rfl
theorem zPs : aD Tryz.prog 64 = true := by kernel_rfl
theorem zRn : aD Tryz.prog 65 = true := by kernel_rfl
theorem zLd : aD Tryz.prog 66 = true := by kernel_rfl
theorem zPr : aD Tryz.prog 67 = true := by kernel_rfl
theorem zTn : aD Tryz.prog 68 = true := by kernel_rfl
theorem zTm : aD Tryz.prog 69 = true := by kernel_rfl
theorem zPq : aD Tryz.prog 73 = true := by kernel_rfl
theorem zRm : aD Tryz.prog 74 = true := by kernel_rfl
theorem zTl : aD Tryz.prog 78 = true := by kernel_rfl
theorem zTk : aD Tryz.prog 79 = true := by kernel_rfl
theorem zTj : aD Tryz.prog 80 = true := by kernel_rfl
theorem zTi : aD Tryz.prog 81 = true := by kernel_rfl
theorem zTh : aD Tryz.prog 82 = true := by kernel_rfl
theorem zTg : aD Tryz.prog 83 = true := by kernel_rfl
theorem zPp : aD Tryz.prog 84 = true := by kernel_rfl
theorem zTf : aD Tryz.prog 90 = true := by kernel_rfl
theorem zRx : aD Tryz.prog 105 = true := by kernel_rfl
theorem zG0 : aD Tryz.prog 106 = true := by kernel_rfl
theorem zRw : aD Tryz.prog 107 = true := by kernel_rfl
theorem zRv : aD Tryz.prog 108 = true := by kernel_rfl
theorem zRu : aD Tryz.prog 109 = true := by kernel_rfl
theorem zRt : aD Tryz.prog 110 = true := by kernel_rfl
theorem zRs : aD Tryz.prog 126 = true := by kernel_rfl
theorem qSb : aD Tryz.prog 127 = true := by kernel_rfl
theorem zRr : aD Tryz.prog 129 = true := by kernel_rfl
attribute [push_cast] qNv qD1 qBj qGi qGh qD0 qCt qCu qD7 qBs qBx wV vY vK vR vP vN vX qA7 vJ nC vW vQ vS vT vU vV vM vL uL uK uE uF uG uH uJ qT qN qV qU qS qR qQ qP qW qBo qBn uT uU uS oH oG oF kC kD qM qA2 qA1 mY oE qAp uV qAq qAo qAn qAr uW qF4 qAt qF3 qM7 qXs qF6 qC4 uX qC5 qC3 qC2 qC0 qM5 uY qF7 qF5 qCz qC7 qM6 qC6 qAs qC1 qGl qD3 qD5 qBk qD4 qNy qGm qNx qGj qD2 qGk qNw qAv uZ qAz qAy wN wM qNb qF8 qC9 qF9 qDi qBd qBc qGf qA9 qBb qDj qGg wD qBe qDk vZ qBa qL4 qF0 qL2 qFz qCr
attribute [push_cast] List.take_succ_cons List.take_zero List.drop_succ_cons List.drop_zero true_and and_true Option.isSome_some List.getElem?_cons_zero List.getElem?_cons_succ List.length_cons List.length_nil cond_true cond_false Int.toNat_natCast Nat.mul_one Nat.add_zero Nat.zero_add Addr.add_lit bne_self_eq_false beq_self_eq_true Bool.not_true Bool.not_false List.size_toArray Array.getD_eq_getD_getElem? List.getElem?_toArray Option.getD_some decide_true decide_false eq_self Bool.true_beq Bool.false_beq List.getD_cons_zero List.getD_cons_succ List.map_cons List.map_nil List.set_cons_zero List.set_cons_succ List.replicate_zero List.toList_toArray List.all_toArray List.all_cons List.all_nil Bool.and_self Bool.and_true Bool.true_and Bool.and_false Bool.false_and List.length_map List.length_append List.length_replicate List.length_set List.cons_append List.nil_append zCj Option.isSome_some Option.isSome_none beq_true beq_false Bool.not_false Option.map_some Bool.true_or Bool.false_or Bool.or_true Bool.or_false Bool.false_xor Bool.true_xor and_self beq_self_eq_true qWw List.flatMap_cons List.flatMap_nil List.append_nil
attribute [push_cast] qXy zS zM zX zU zKi zBj qVd zFs zFr zBi zNf zAj zEt zEs zEr zEu zEv zEq zJw zAk qV3 qV4 zNj zBm qRb zBk qNo qVj qVk zBl qVi qVf zBn qVe qVo zFw qVn qRa qVg zFu zFx qVm zFv zFt zBp zF3 zF0 qRm qWm qWl qWn qWo zF1 zF2 qWb qWc qWa qWd qWg qWi qWh qWj zKj qVz zBs qV1 qV0 zH4 zBz qWe zAa zBq zJ9 pT jC fP qZz qUb zF5 zF6 zF7 qWf zF8 zBt qV2 zBu zBv zBw qV5 zBy qV7 zBx qV6 qVx qRh qRi qV8 qV9 zBr qVw qVy qRf qRg qRj qRk zB8 zKq zGc qT7 qQd zBh qVc zB7 qWt zFl zBc qWq zG8 zCx zBd qVa zNn qWr qWs qRp qRq zF4 qUc qUe qUd qRs zAb zAd zAc zLo zJq zJr qZ9 qRt zGd zGg zGe zGf zAi qUm zNv zKn zKo zB2 zB3 zB4 zB5 zB6 qW8 qSj zKp zGb zLm qZ3 zTd zNs zRc zNr zNt zKh zFq zNz zGl zNk zFj zFi zFh zRi zGr zJj qVr zEc qRd zJh qVp qZ2 qNp zJi qVq qVv qVu qVt qVs qY8 qGc qMw zDh zDi qMz qDn qBg mS kP lY kJ pN pP pQ wG pS iH mL iL dP qBh zFe dQ kN hU cR mK mJ mM mH iK jS iM iJ dN dM dR dL lD lE lF fH fJ fL vE zGt zQr zLp qZs qTu fM dT cS dK cN sU oY zKm zKl zF9 zKk zNp zFo zKf zBg zNq zKg zA6 qQ7 zA4 qNm qU6 qU7 zA5 qU5 qU3 zA8 qU8 zFg zJ8 zA9 qU4 zBa qU9 zFf zA7 qU2 qQ6 zD0 zD2 zD4 zD5 qT8 zD7 qT9 qUa qQg qZ0 qQh qP3 qMy qTr zD3 zFd zA2 zFc zA3 zJ7 zFb zKd zBf zFn zKe qU0 zA1 qU1 zJ6 zFa qZe qPx qMs qTh qTg qPw qTe qPt qTi qTj qMn qG4 qMm qMl qFx qKc qKd qMo qTf qMp qKb qKa qJ8 qPv qKe qG3 qJ9 qMq qTl qTk qZw qT5 qT2 zDx qT3 qT4 zFk qQm qUj qM2 qP6 zKb zBe zFm zKc qUy zA0 qUz zJ5 zE9 zAy zAz qTx qM3 qTv qKf qP9 qQa qTw qP8 qP5 qTy qQb qZv zDt qTz qP7 qZu qZt zCw qXc qVh qRl zBo zB0 zGa qWp zB1 qRn qMr qG6 qVl zRg qRo
 zEg qZ6 zMi zJ3 zE7 zAp zJy zJ0 zJz zJ2 zLb zK2 zGq zAq zJ1 zNh zNi qYw zKr qZ4 zLa zLc zCc zK1 zK3 zGp zCf qW3 zHt zC9 zHu qW5 ltT ltF leT leF eqT eqF nP zQf qS1 qYy
attribute [push_cast] zUe zUd bb4 zR0 zRz zRy zUc zUb zUa zT9 zT8 zT7 zT6 zT5 zT4 zLe zK0 zKz zKy zKx zKw zKv zPk zPj zPi zPh zPg zPf zPe zPd zPc zPb zPa zN9 zN8 zN7 zN6 zN5 zN4 zN3 zN2 zN1 zN0 zNy zRb zRa zQ9 it3 it5 zQ8 zQ7 zQ6 zQ5 qX0 xR qLg zTa zS9 kt3 zS8 zQ4 kt4 kt5 zS7 zS6 zS5 zS4 zS3 zS2 zS1 kt9 zS0 zQz zJd zJc zJb zJa zH9 zH8 zNa zM9 zM8 zM7 zM6 zM5 zM4 zM3 zM2 zM1 zM0 zMz zMy zMx zMw zMv zMu zMt zMs zMr zMq zMp zMo zMn zMm zQw zQv qXn zL6 zQu zSx zSw zSv zSu zSt zSs zQs st9 zQq zSo zQp zQo zQn zQm zQl ui3 ui5 ui9 zQi zQh qKp qKo zQg zSn zSm qB2 zSl zSk zSj zQe zQd zQc qPe zt3 zSh zSg zSf zSe zSd zSc zSb zSa zR9 zR8 zR7
attribute [push_cast] zJe yF qZh yG zCt yL zAn zE1 zE2 zE3 zE4 Option.getD_some Option.map_some Option.map_none Nat.zero_add pS iL iK iJ iM lD lF lE List.map_cons List.map_nil implies_true and_self true_and and_true true_implies false_implies Int.toNat_natCast Bool.or_true Bool.or_false Bool.and_true Bool.and_false
end Go.Proofs.YtdfjeokjmigkaaaGreat
