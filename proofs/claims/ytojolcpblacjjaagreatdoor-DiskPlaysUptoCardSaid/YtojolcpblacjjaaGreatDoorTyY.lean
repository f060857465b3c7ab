/-
  Facts of the types, the functions' names.
-/
import Derived.Test.YtojolcpblacjjaaGreatDoorGc
import Derived.Test.YtojolcpblacjjaaGreatDoorProg
namespace Go.Proofs.YtojolcpblacjjaaGreatDoor
open Go Go.Eng
theorem mixed : Tryz.prog.follows .mixedOrders = true := by kernel_rfl
theorem bb4 : qLw Tryz.prog 4 = true := by kernel_rfl
theorem zHo : dX Tryz.prog 123 = true := by kernel_rfl
theorem zHn : dX Tryz.prog 124 = true := by kernel_rfl
theorem zLu : dX Tryz.prog 35 = true := by kernel_rfl
theorem zLt : dX Tryz.prog 37 = true := by kernel_rfl
theorem zLs : dX Tryz.prog 47 = true := by kernel_rfl
theorem zLr : dX Tryz.prog 65 = true := by kernel_rfl
theorem zLq : dX Tryz.prog 76 = true := by kernel_rfl
theorem zFg : qLf Tryz.prog 9 90 = true := by kernel_rfl
theorem qY2 : fG Tryz.prog 123 0 = some 0 := by kernel_rfl
theorem qY1 : fG Tryz.prog 123 1 = some 1 := by kernel_rfl
theorem zEx : fG Tryz.prog 29 0 = some 0 := by kernel_rfl
theorem gC : fG Tryz.prog 29 1 = some 1 := by kernel_rfl
theorem wT : fG Tryz.prog 29 2 = some 2 := by kernel_rfl
theorem wS : fG Tryz.prog 29 3 = some 3 := by kernel_rfl
theorem zEw : fG Tryz.prog 35 0 = some 0 := by kernel_rfl
theorem zEv : fG Tryz.prog 35 1 = some 1 := by kernel_rfl
theorem zEu : fG Tryz.prog 35 2 = some 2 := by kernel_rfl
theorem zEt : fG Tryz.prog 35 3 = some 3 := by kernel_rfl
theorem zEs : fG Tryz.prog 35 4 = some 4 := by kernel_rfl
theorem zEr : fG Tryz.prog 35 5 = some 5 := by kernel_rfl
theorem zEq : fG Tryz.prog 37 0 = some 0 := by kernel_rfl
theorem zEp : fG Tryz.prog 37 1 = some 1 := by kernel_rfl
theorem zEo : fG Tryz.prog 37 2 = some 2 := by kernel_rfl
theorem zEn : fG Tryz.prog 37 3 = some 3 := by kernel_rfl
theorem zEm : fG Tryz.prog 37 4 = some 4 := by kernel_rfl
theorem zEl : fG Tryz.prog 37 5 = some 5 := by kernel_rfl
theorem zEk : fG Tryz.prog 37 6 = some 6 := by kernel_rfl
theorem zEj : fG Tryz.prog 47 0 = some 0 := by kernel_rfl
theorem zEi : fG Tryz.prog 47 1 = some 1 := by kernel_rfl
theorem zEh : fG Tryz.prog 47 2 = some 2 := by kernel_rfl
theorem zEg : fG Tryz.prog 47 3 = some 3 := by kernel_rfl
theorem zEf : fG Tryz.prog 47 4 = some 4 := by kernel_rfl
theorem zEe : fG Tryz.prog 47 5 = some 5 := by kernel_rfl
theorem zEd : fG Tryz.prog 65 0 = some 0 := by kernel_rfl
theorem zEc : fG Tryz.prog 65 1 = some 1 := by kernel_rfl
theorem zEb : fG Tryz.prog 65 2 = some 2 := by kernel_rfl
theorem zEa : fG Tryz.prog 65 3 = some 3 := by kernel_rfl
theorem zD9 : fG Tryz.prog 65 4 = some 4 := by kernel_rfl
theorem zD8 : fG Tryz.prog 65 5 = some 5 := by kernel_rfl
theorem zD7 : fG Tryz.prog 76 0 = some 0 := by kernel_rfl
theorem zD6 : fG Tryz.prog 76 1 = some 1 := by kernel_rfl
theorem zD3 : qAq Tryz.prog 65 0 = some (0, none) := by kernel_rfl
theorem zD2 : qAq Tryz.prog 65 5 = some (5, none) := by kernel_rfl
theorem zHk : qLq Tryz.prog 105 = some .u32 := by kernel_rfl
theorem zK2 : qLq Tryz.prog 21 = some .i32 := by kernel_rfl
theorem it3 : qLq Tryz.prog 3 = some .i64 := by kernel_rfl
theorem it5 : qLq Tryz.prog 5 = some .u8 := by kernel_rfl
theorem zK1 : qLq Tryz.prog 81 = some .u64 := by kernel_rfl
theorem zK0 : qLq Tryz.prog 89 = some .u64 := by kernel_rfl
theorem zHj : cM Tryz.prog 123 = some (some 2) := by kernel_rfl
theorem zHi : cM Tryz.prog 124 = some (some 32) := by kernel_rfl
theorem zKz : cM Tryz.prog 29 = some (some 4) := by kernel_rfl
theorem kt3 : cM Tryz.prog 3 = some none := by kernel_rfl
theorem zKy : cM Tryz.prog 32 = some none := by kernel_rfl
theorem zKx : cM Tryz.prog 33 = some none := by kernel_rfl
theorem zKw : cM Tryz.prog 37 = some (some 7) := by kernel_rfl
theorem kt4 : cM Tryz.prog 4 = some none := by kernel_rfl
theorem zKv : cM Tryz.prog 44 = some none := by kernel_rfl
theorem zKu : cM Tryz.prog 45 = some none := by kernel_rfl
theorem kt5 : cM Tryz.prog 5 = some none := by kernel_rfl
theorem qQ1 : cM Tryz.prog 59 = some none := by kernel_rfl
theorem zKt : cM Tryz.prog 65 = some (some 6) := by kernel_rfl
theorem kt9 : cM Tryz.prog 9 = some none := by kernel_rfl
theorem zKk : qFj Tryz.prog 23 = true := by kernel_rfl
theorem qXm : gJ Tryz.prog 123 0 = some (0, 1) := by kernel_rfl
theorem qXl : gJ Tryz.prog 123 1 = some (1, 1) := by kernel_rfl
theorem qXk : gJ Tryz.prog 124 0 = some (0, 2) := by kernel_rfl
theorem qXj : gJ Tryz.prog 124 1 = some (2, 2) := by kernel_rfl
theorem qXi : gJ Tryz.prog 124 2 = some (4, 2) := by kernel_rfl
theorem qXh : gJ Tryz.prog 124 3 = some (6, 2) := by kernel_rfl
theorem qXg : gJ Tryz.prog 124 4 = some (8, 2) := by kernel_rfl
theorem zCp : gJ Tryz.prog 35 4 = some (4, 1) := by kernel_rfl
theorem zCo : gJ Tryz.prog 37 0 = some (0, 1) := by kernel_rfl
theorem zCn : gJ Tryz.prog 37 1 = some (1, 1) := by kernel_rfl
theorem zCm : gJ Tryz.prog 47 0 = some (0, 1) := by kernel_rfl
theorem zCl : gJ Tryz.prog 47 1 = some (1, 1) := by kernel_rfl
theorem zCk : gJ Tryz.prog 47 4 = some (4, 1) := by kernel_rfl
theorem zCj : gJ Tryz.prog 65 0 = some (0, 1) := by kernel_rfl
theorem zCi : gJ Tryz.prog 76 0 = some (0, 1) := by kernel_rfl
theorem zCh : gJ Tryz.prog 76 1 = some (1, 1) := by kernel_rfl
theorem zKi : rA Tryz.prog 32 = some (37, 7, 72, #[.string ByteArray.empty, .bool false, .string ByteArray.empty, .string ByteArray.empty, .bool false, .bool false, .int .i64 0]) := by kernel_rfl
theorem zKh : rA Tryz.prog 33 = some (76, 2, 24, #[.string ByteArray.empty, .int .i64 0]) := by kernel_rfl
theorem zF0 : rA Tryz.prog 59 = some (9, 1, 16, #[.string ByteArray.empty]) := by kernel_rfl
theorem zFz : rA Tryz.prog 63 = some (59, 1, 24, #[.slice none 0 0]) := by kernel_rfl
theorem zKg : rA Tryz.prog 90 = some (5, 1, 1, #[.int .u8 0]) := by kernel_rfl
theorem zKf : vA Tryz.prog 90 = false := by kernel_rfl
theorem st9 : vA Tryz.prog 9 = true := by kernel_rfl
theorem zHc : qQa Tryz.prog 121 = some (256, 1) := by kernel_rfl
theorem zHb : qQa Tryz.prog 124 = some (16, 2) := by kernel_rfl
theorem zHa : (Tryz.prog.underlying 105).isSome = true := by kernel_rfl
theorem ui3 : (Tryz.prog.underlying 3).isSome = true := by kernel_rfl
theorem ui5 : (Tryz.prog.underlying 5).isSome = true := by kernel_rfl
theorem zKd : (Tryz.prog.underlying 81).isSome = true := by kernel_rfl
theorem zKc : (Tryz.prog.underlying 89).isSome = true := by kernel_rfl
theorem ui9 : (Tryz.prog.underlying 9).isSome = true := by kernel_rfl
theorem zKb : (Tryz.prog.underlying 90).isSome = true := by kernel_rfl
theorem zJ8 : cK Tryz.prog 22 = some (29, 4) := by kernel_rfl
theorem zJ7 : cK Tryz.prog 32 = some (37, 7) := by kernel_rfl
theorem zJ6 : cK Tryz.prog 33 = some (76, 2) := by kernel_rfl
theorem qRg : cK Tryz.prog 59 = some (9, 1) := by kernel_rfl
theorem qFi : cK Tryz.prog 63 = some (59, 1) := by kernel_rfl
theorem zJ5 : cK Tryz.prog 90 = some (5, 1) := by kernel_rfl
theorem zG9 : gD Tryz.prog 123 = some #[.int .u8 0, .int .u8 0] := by kernel_rfl
theorem zG8 : gD Tryz.prog 124 = some #[.int .u8 0, .int .u8 0, .int .u8 0, .int .u8 0, .int .u8 0, .int .u8 0, .int .u8 0, .int .u8 0, .int .u8 0, .int .u8 0, .int .u8 0, .int .u8 0, .int .u8 0, .int .u8 0, .int .u8 0, .int .u8 0, .int .u8 0, .int .u8 0, .int .u8 0, .int .u8 0, .int .u8 0, .int .u8 0, .int .u8 0, .int .u8 0, .int .u8 0, .int .u8 0, .int .u8 0, .int .u8 0, .int .u8 0, .int .u8 0, .int .u8 0, .int .u8 0] := by kernel_rfl
theorem zJ3 : gD Tryz.prog 29 = some #[.int .i64 0, .string ByteArray.empty, .string ByteArray.empty, .int .i64 0] := by kernel_rfl
theorem zt3 : gD Tryz.prog 3 = some #[.int .i64 0] := by kernel_rfl
theorem zJ2 : gD Tryz.prog 35 = some #[.slice none 0 0, .slice none 0 0, .int .i64 0, .int .i64 0, .int .i64 0, .bool false] := by kernel_rfl
theorem qZq : gD Tryz.prog 37 = some #[.string ByteArray.empty, .bool false, .string ByteArray.empty, .string ByteArray.empty, .bool false, .bool false, .int .i64 0] := by kernel_rfl
theorem zJ1 : gD Tryz.prog 44 = some #[.map none] := by kernel_rfl
theorem zJ0 : gD Tryz.prog 47 = some #[.map none, .map none, .int .i64 0, .int .i64 0, .int .i64 0, .bool false] := by kernel_rfl
theorem zJz : gD Tryz.prog 59 = some #[.slice none 0 0] := by kernel_rfl
theorem zJy : gD Tryz.prog 65 = some #[.bool false, .string ByteArray.empty, .string ByteArray.empty, .bool false, .bool false, .int .i64 0] := by kernel_rfl
theorem zJx : gD Tryz.prog 76 = some #[.string ByteArray.empty, .int .i64 0] := by kernel_rfl
theorem cl5 : aJ Tryz.prog 5 = true := by kernel_rfl
theorem cl6 : aJ Tryz.prog 6 = true := by kernel_rfl
theorem cl7 : aJ Tryz.prog 7 = true := by kernel_rfl
theorem cl8 : aJ Tryz.prog 8 = true := by kernel_rfl
theorem cl9 : aJ Tryz.prog 9 = true := by kernel_rfl
theorem zM6 : aJ Tryz.prog 10 = true := by kernel_rfl
theorem zLo : aJ Tryz.prog 11 = true := by kernel_rfl
theorem zLm : aJ Tryz.prog 12 = true := by kernel_rfl
theorem zM5 : aJ Tryz.prog 13 = true := by kernel_rfl
theorem zLl : aJ Tryz.prog 14 = true := by kernel_rfl
theorem zLk : aJ Tryz.prog 15 = true := by kernel_rfl
theorem zLj : aJ Tryz.prog 16 = true := by kernel_rfl
theorem zLi : aJ Tryz.prog 17 = true := by kernel_rfl
theorem zJq : aJ Tryz.prog 18 = true := by kernel_rfl
theorem zM4 : aJ Tryz.prog 19 = true := by kernel_rfl
theorem zM3 : aJ Tryz.prog 20 = true := by kernel_rfl
theorem zM2 : aJ Tryz.prog 21 = true := by kernel_rfl
theorem zM1 : aJ Tryz.prog 22 = true := by kernel_rfl
theorem zM0 : aJ Tryz.prog 23 = true := by kernel_rfl
theorem zMz : aJ Tryz.prog 24 = true := by kernel_rfl
theorem zMy : aJ Tryz.prog 25 = true := by kernel_rfl
theorem zMx : aJ Tryz.prog 26 = true := by kernel_rfl
theorem zMw : aJ Tryz.prog 27 = true := by kernel_rfl
theorem zMv : aJ Tryz.prog 28 = true := by kernel_rfl
theorem zMu : aJ Tryz.prog 29 = true := by kernel_rfl
theorem zMt : aJ Tryz.prog 30 = true := by kernel_rfl
theorem zMs : aJ Tryz.prog 31 = true := by kernel_rfl
theorem zMr : aJ Tryz.prog 32 = true := by kernel_rfl
theorem zMq : aJ Tryz.prog 33 = true := by kernel_rfl
theorem zMp : aJ Tryz.prog 34 = true := by kernel_rfl
theorem zMo : aJ Tryz.prog 35 = true := by kernel_rfl
theorem zGz : aJ Tryz.prog 36 = true := by kernel_rfl
theorem mU : aJ Tryz.prog 37 = true := by kernel_rfl
theorem zMn : aJ Tryz.prog 38 = true := by kernel_rfl
theorem zLh : aJ Tryz.prog 39 = true := by kernel_rfl
theorem zJp : aJ Tryz.prog 40 = true := by kernel_rfl
theorem zJo : aJ Tryz.prog 41 = true := by kernel_rfl
theorem zMm : aJ Tryz.prog 42 = true := by kernel_rfl
theorem zBe : aJ Tryz.prog 43 = true := by kernel_rfl
theorem zFd : aJ Tryz.prog 44 = true := by kernel_rfl
theorem qWq : aJ Tryz.prog 45 = true := by kernel_rfl
theorem zGy : aJ Tryz.prog 46 = true := by kernel_rfl
theorem zBd : aJ Tryz.prog 47 = true := by kernel_rfl
theorem zFc : aJ Tryz.prog 48 = true := by kernel_rfl
theorem zBc : aJ Tryz.prog 49 = true := by kernel_rfl
theorem zJn : aJ Tryz.prog 50 = true := by kernel_rfl
theorem zBb : aJ Tryz.prog 51 = true := by kernel_rfl
theorem qWp : aJ Tryz.prog 52 = true := by kernel_rfl
theorem qLv : aJ Tryz.prog 53 = true := by kernel_rfl
theorem zJm : aJ Tryz.prog 54 = true := by kernel_rfl
theorem zFb : aJ Tryz.prog 55 = true := by kernel_rfl
theorem zJl : aJ Tryz.prog 56 = true := by kernel_rfl
theorem zJk : aJ Tryz.prog 57 = true := by kernel_rfl
theorem zBa : aJ Tryz.prog 58 = true := by kernel_rfl
theorem zLg : aJ Tryz.prog 59 = true := by kernel_rfl
theorem zGx : aJ Tryz.prog 60 = true := by kernel_rfl
theorem zGw : aJ Tryz.prog 61 = true := by kernel_rfl
theorem zMl : aJ Tryz.prog 62 = true := by kernel_rfl
theorem zMk : aJ Tryz.prog 63 = true := by kernel_rfl
theorem zMj : aJ Tryz.prog 64 = true := by kernel_rfl
theorem zMi : aJ Tryz.prog 65 = true := by kernel_rfl
theorem zLf : aJ Tryz.prog 66 = true := by kernel_rfl
theorem zLe : aJ Tryz.prog 67 = true := by kernel_rfl
theorem zLd : aJ Tryz.prog 68 = true := by kernel_rfl
theorem zMh : aJ Tryz.prog 69 = true := by kernel_rfl
theorem zGv : aJ Tryz.prog 70 = true := by kernel_rfl
theorem zJj : aJ Tryz.prog 71 = true := by kernel_rfl
theorem zMg : aJ Tryz.prog 72 = true := by kernel_rfl
theorem zJi : aJ Tryz.prog 73 = true := by kernel_rfl
theorem zMf : aJ Tryz.prog 74 = true := by kernel_rfl
theorem zMe : aJ Tryz.prog 75 = true := by kernel_rfl
theorem zMd : aJ Tryz.prog 76 = true := by kernel_rfl
theorem zMc : aJ Tryz.prog 79 = true := by kernel_rfl
theorem zJh : aJ Tryz.prog 82 = true := by kernel_rfl
theorem zLc : aJ Tryz.prog 83 = true := by kernel_rfl
theorem zMb : aJ Tryz.prog 84 = true := by kernel_rfl
theorem zMa : aJ Tryz.prog 85 = true := by kernel_rfl
theorem zL9 : aJ Tryz.prog 87 = true := by kernel_rfl
theorem zLp : aJ Tryz.prog 101 = true := by kernel_rfl
theorem zFe : aJ Tryz.prog 102 = true := by kernel_rfl
theorem zLn : aJ Tryz.prog 110 = true := by kernel_rfl
attribute [push_cast] wW wX tE qCv qCu wV vD vE xC tK tQ pU pB oN oU oS oR pA sK oM iS oZ oT oV oW oX oY oQ oP nT nS nM nN nP nQ nR lP lJ lR lQ lN lM lL lK lS tJ tH nZ oA nY kA jZ jY fL fM lG sC sB iQ jX rT oB rU rS rR rV oC qB1 rX qB0 qG7 qR8 qB3 vT oD vU vS vR vP qG5 oE qB4 qB2 vN vW qG6 vV rW vQ qCy wZ xB tG xA qK7 qCz qK6 qCw wY qCx qK5 rY oG sA rZ pP pN qHi qB6 vY qB7 wE sQ sP qCg sL sN wF qCh pD sR wG pC sM qF0 qBb qFz qA9 vC
attribute [push_cast] List.take_succ_cons List.take_zero List.drop_succ_cons List.drop_zero true_and and_true Option.isSome_some List.getElem?_cons_zero List.getElem?_cons_succ List.length_cons List.length_nil cond_true cond_false Int.toNat_natCast Nat.mul_one Nat.add_zero Nat.zero_add Addr.add_lit bne_self_eq_false beq_self_eq_true Bool.not_true Bool.not_false List.size_toArray Array.getD_eq_getD_getElem? List.getElem?_toArray Option.getD_some decide_true decide_false eq_self Bool.true_beq Bool.false_beq List.getD_cons_zero List.getD_cons_succ List.map_cons List.map_nil List.set_cons_zero List.set_cons_succ List.replicate_zero List.toList_toArray List.all_toArray List.all_cons List.all_nil Bool.and_self Bool.and_true Bool.true_and Bool.and_false Bool.false_and List.length_map List.length_append List.length_replicate List.length_set List.cons_append List.nil_append qPz Option.isSome_some Option.isSome_none beq_true beq_false Bool.not_false Option.map_some Bool.true_or Bool.false_or Bool.or_true Bool.or_false Bool.false_xor Bool.true_xor and_self beq_self_eq_true qK1 List.flatMap_cons List.flatMap_nil List.append_nil
attribute [push_cast] qX2 zS zM zX zU qYr qNz qJg qTr qTq qNy zC8 qM9 qSv qSu qSt qSw qSx qSs qX4 qNa qJ7 qJ8 zDn qN2 qEv qN0 qCo qJm qJn qN1 qJl qJi qN3 qJh qJr qTv qJq qEu qJj qTt qTw qJp qTu qTs qN5 qT1 qTy qE5 qKq qKp qKr qKs qTz qT0 qKg qKh qKf qKi qKl qKn qKm qKo qYs qJ3 qN9 qJ5 qJ4 qXb qPg qKj qMy qN6 qYh iT qFs yR qMr qHh qT3 qT4 qT5 qKk qT6 qPa qJ6 qPb qPc qPd qJ9 qPf qKb qPe qKa qJ1 qEz qE0 qKc qKd qN8 qJ0 qJ2 qEx qEy qE1 qE2 qPp qYz qUa qHd qEm qNx qJf qPo qKx qTl qNs qKu qUy qP4 qNt qJe zDq qKv qKw qE9 qFa qT2 qHj qHl qHk qFb qMz qM1 qM0 qZh qXv qXw qMx qFc qUc qUf qUd qUe qM8 qHv zDy qYw qYx qPj qPk qPl qPm qPn qLh qFf qYy qT9 qZg qMu zK4 zDv zHl zDu zDw qYq qTp zD4 qUg zDo qTh qTf qTe zK9 zE0 qXr qJv qSj qEw qXp qJt qMt qCp qXq qJu qJz qJy qJx qJw qL4 xZ qDb qRx qRy qDd tA nE fY eV fP eN iM iN iP lC qH3 qDp fW wL sX iA qTb sY eU yU nD fV fU fX fT wK qCj wM wJ sW sU sZ sT qBq qBr qBs xN xP xQ lA qUq zHd qZi qMh qGy xS tF nF rL mZ qRn qL2 qYv qYu qT7 qYt zDr qTo qYo qNw zDs qYp qNn qEt qNl qCk qH8 qH9 qNm qH7 qH5 qNp qJa qTd qYf qNq qH6 qNr qJb qTc qNo qH4 qEs qSc qSd qSf qSh qHe qSi qHf qHg qEn qMs qEo qEd qBv qGx qSe qS8 qNj qS7 qNk qYe qS6 qYm qNv qTn qYn qH0 qNi qH1 qYd qS5 qL9 qEb qBp qGn qGk qEa qGi qD7 qGo qGp qBk vG qBj qBi uU qAj qAk qBl qGj qBm qAi qAh qAf qD9 qAl vF qAg qBn qGr qGq qMo qHc qG9 qR9 qHa qHb qTi qEq qHr qBy qEf qYk qNu qTm qYl qHy qNh qHz qYc qS4 qNf qNg qG1 qBz qGz qAm qEi qEj qG0 qEh qEe qG2 qEk qMk qR5 qG3 qEg qMj qMi qP2 qLi qJk qE4 qN4 qPh qT8 qKt qPi qE6 qBo vH qJo zHm qE7
 qSl qMw zB1 qYa qS2 qNd qX5 qX7 qX6 qX9 qY9 qY4 qUk qNe qX8 zDj zDk qLx qY0 qMv qY8 qZa qPq qY3 qY5 qUj qPx qLa qW4 qRl qW5 qLg ltT ltF leT leF eqT eqF tD qLo qF7 qLz
attribute [push_cast] bb4 zHo zHn zLu zLt zLs zLr zLq zFg qY2 qY1 zEx gC wT wS zEw zEv zEu zEt zEs zEr zEq zEp zEo zEn zEm zEl zEk zEj zEi zEh zEg zEf zEe zEd zEc zEb zEa zD9 zD8 zD7 zD6 zD3 zD2 zHk zK2 it3 it5 zK1 zK0 zHj zHi zKz kt3 zKy zKx zKw kt4 zKv zKu kt5 qQ1 zKt kt9 zKk qXm qXl qXk qXj qXi qXh qXg zCp zCo zCn zCm zCl zCk zCj zCi zCh zKi zKh zF0 zFz zKg zKf st9 zHc zHb zHa ui3 ui5 zKd zKc ui9 zKb zJ8 zJ7 zJ6 qRg qFi zJ5 zG9 zG8 zJ3 zt3 zJ2 qZq zJ1 zJ0 zJz zJy zJx
attribute [push_cast] wW wX tE qCv qCu wV vD vE xC tK tQ pU pB oN oU oS oR pA sK oM iS oZ oT oV oW oX oY oQ oP nT nS nM nN nP nQ nR lP lJ lR lQ lN lM lL lK lS tJ tH nZ oA nY kA jZ jY fL fM lG sC sB iQ jX rT oB rU rS rR rV oC qB1 rX qB0 qG7 qR8 qB3 vT oD vU vS vR vP qG5 oE qB4 qB2 vN vW qG6 vV rW vQ qCy wZ xB tG xA qK7 qCz qK6 qCw wY qCx qK5 rY oG sA rZ pP pN qHi qB6 vY qB7 wE sQ sP qCg sL sN wF qCh pD sR wG pC sM qF0 qBb qFz qA9 vC
attribute [push_cast] List.take_succ_cons List.take_zero List.drop_succ_cons List.drop_zero true_and and_true Option.isSome_some List.getElem?_cons_zero List.getElem?_cons_succ List.length_cons List.length_nil cond_true cond_false Int.toNat_natCast Nat.mul_one Nat.add_zero Nat.zero_add Addr.add_lit bne_self_eq_false beq_self_eq_true Bool.not_true Bool.not_false List.size_toArray Array.getD_eq_getD_getElem? List.getElem?_toArray Option.getD_some decide_true decide_false eq_self Bool.true_beq Bool.false_beq List.getD_cons_zero List.getD_cons_succ List.map_cons List.map_nil List.set_cons_zero List.set_cons_succ List.replicate_zero List.toList_toArray List.all_toArray List.all_cons List.all_nil Bool.and_self Bool.and_true Bool.true_and Bool.and_false Bool.false_and List.length_map List.length_append List.length_replicate List.length_set List.cons_append List.nil_append qPz Option.isSome_some Option.isSome_none beq_true beq_false Bool.not_false Option.map_some Bool.true_or Bool.false_or Bool.or_true Bool.or_false Bool.false_xor Bool.true_xor and_self beq_self_eq_true qK1 List.flatMap_cons List.flatMap_nil List.append_nil
attribute [push_cast] qX2 zS zM zX zU qYr qNz qJg qTr qTq qNy zC8 qM9 qSv qSu qSt qSw qSx qSs qX4 qNa qJ7 qJ8 zDn qN2 qEv qN0 qCo qJm qJn qN1 qJl qJi qN3 qJh qJr qTv qJq qEu qJj qTt qTw qJp qTu qTs qN5 qT1 qTy qE5 qKq qKp qKr qKs qTz qT0 qKg qKh qKf qKi qKl qKn qKm qKo qYs qJ3 qN9 qJ5 qJ4 qXb qPg qKj qMy qN6 qYh iT qFs yR qMr qHh qT3 qT4 qT5 qKk qT6 qPa qJ6 qPb qPc qPd qJ9 qPf qKb qPe qKa qJ1 qEz qE0 qKc qKd qN8 qJ0 qJ2 qEx qEy qE1 qE2 qPp qYz qUa qHd qEm qNx qJf qPo qKx qTl qNs qKu qUy qP4 qNt qJe zDq qKv qKw qE9 qFa qT2 qHj qHl qHk qFb qMz qM1 qM0 qZh qXv qXw qMx qFc qUc qUf qUd qUe qM8 qHv zDy qYw qYx qPj qPk qPl qPm qPn qLh qFf qYy qT9 qZg qMu zK4 zDv zHl zDu zDw qYq qTp zD4 qUg zDo qTh qTf qTe zK9 zE0 qXr qJv qSj qEw qXp qJt qMt qCp qXq qJu qJz qJy qJx qJw qL4 xZ qDb qRx qRy qDd tA nE fY eV fP eN iM iN iP lC qH3 qDp fW wL sX iA qTb sY eU yU nD fV fU fX fT wK qCj wM wJ sW sU sZ sT qBq qBr qBs xN xP xQ lA qUq zHd qZi qMh qGy xS tF nF rL mZ qRn qL2 qYv qYu qT7 qYt zDr qTo qYo qNw zDs qYp qNn qEt qNl qCk qH8 qH9 qNm qH7 qH5 qNp qJa qTd qYf qNq qH6 qNr qJb qTc qNo qH4 qEs qSc qSd qSf qSh qHe qSi qHf qHg qEn qMs qEo qEd qBv qGx qSe qS8 qNj qS7 qNk qYe qS6 qYm qNv qTn qYn qH0 qNi qH1 qYd qS5 qL9 qEb qBp qGn qGk qEa qGi qD7 qGo qGp qBk vG qBj qBi uU qAj qAk qBl qGj qBm qAi qAh qAf qD9 qAl vF qAg qBn qGr qGq qMo qHc qG9 qR9 qHa qHb qTi qEq qHr qBy qEf qYk qNu qTm qYl qHy qNh qHz qYc qS4 qNf qNg qG1 qBz qGz qAm qEi qEj qG0 qEh qEe qG2 qEk qMk qR5 qG3 qEg qMj qMi qP2 qLi qJk qE4 qN4 qPh qT8 qKt qPi qE6 qBo vH qJo zHm qE7
 qSl qMw zB1 qYa qS2 qNd qX5 qX7 qX6 qX9 qY9 qY4 qUk qNe qX8 zDj zDk qLx qY0 qMv qY8 qZa qPq qY3 qY5 qUj qPx qLa qW4 qRl qW5 qLg ltT ltF leT leF eqT eqF tD qLo qF7 qLz
attribute [push_cast] bb4 zHo zHn zLu zLt zLs zLr zLq zFg qY2 qY1 zEx gC wT wS zEw zEv zEu zEt zEs zEr zEq zEp zEo zEn zEm zEl zEk zEj zEi zEh zEg zEf zEe zEd zEc zEb zEa zD9 zD8 zD7 zD6 zD3 zD2 zHk zK2 it3 it5 zK1 zK0 zHj zHi zKz kt3 zKy zKx zKw kt4 zKv zKu kt5 qQ1 zKt kt9 zKk qXm qXl qXk qXj qXi qXh qXg zCp zCo zCn zCm zCl zCk zCj zCi zCh zKi zKh zF0 zFz zKg zKf st9 zHc zHb zHa ui3 ui5 zKd zKc ui9 zKb zJ8 zJ7 zJ6 qRg qFi zJ5 zG9 zG8 zJ3 zt3 zJ2 qZq zJ1 zJ0 zJz zJy zJx
attribute [push_cast] zGc yF zAa yG zBg yL zAz zDf zDg zDh zDi Option.getD_some Option.map_some Option.map_none Nat.zero_add qH3 wL wK wJ wM qBq qBs qBr List.map_cons List.map_nil implies_true and_self true_and and_true true_implies false_implies Int.toNat_natCast Bool.or_true Bool.or_false Bool.and_true Bool.and_false
end Go.Proofs.YtojolcpblacjjaaGreatDoor
