/-
  Facts of the types, the functions' names.
-/
import Derived.Test.YtkonlklieacjoaaDoorGc
import Derived.Test.YtkonlklieacjoaaDoorProg
namespace Go.Proofs.YtkonlklieacjoaaDoor
open Go Go.Eng
theorem mixed : Tryd.prog.follows .mixedOrders = true := by kernel_rfl
theorem zNf : qM0 Tryd.prog 116 = some 2 := by kernel_rfl
theorem zRc : qM0 Tryd.prog 53 = some 3 := by kernel_rfl
theorem bb4 : qNn Tryd.prog 4 = true := by kernel_rfl
theorem zNe : cW Tryd.prog 103 = true := by kernel_rfl
theorem zNd : cW Tryd.prog 105 = true := by kernel_rfl
theorem zNc : cW Tryd.prog 116 = true := by kernel_rfl
theorem zNb : cW Tryd.prog 122 = true := by kernel_rfl
theorem zNa : cW Tryd.prog 124 = true := by kernel_rfl
theorem zM9 : cW Tryd.prog 126 = true := by kernel_rfl
theorem zM8 : cW Tryd.prog 173 = true := by kernel_rfl
theorem zM7 : cW Tryd.prog 174 = true := by kernel_rfl
theorem zPf : cW Tryd.prog 24 = true := by kernel_rfl
theorem zRb : cW Tryd.prog 52 = true := by kernel_rfl
theorem zRa : cW Tryd.prog 53 = true := by kernel_rfl
theorem zQ9 : cW Tryd.prog 56 = true := by kernel_rfl
theorem zQ8 : cW Tryd.prog 58 = true := by kernel_rfl
theorem zPe : cW Tryd.prog 68 = true := by kernel_rfl
theorem zCh : iF Tryd.prog 103 0 = some 0 := by kernel_rfl
theorem zCg : iF Tryd.prog 103 1 = some 1 := by kernel_rfl
theorem zCf : iF Tryd.prog 103 2 = some 2 := by kernel_rfl
theorem zCe : iF Tryd.prog 103 3 = some 3 := by kernel_rfl
theorem zCd : iF Tryd.prog 103 4 = some 4 := by kernel_rfl
theorem zCc : iF Tryd.prog 103 5 = some 5 := by kernel_rfl
theorem zCb : iF Tryd.prog 105 0 = some 0 := by kernel_rfl
theorem zCa : iF Tryd.prog 105 1 = some 1 := by kernel_rfl
theorem zB9 : iF Tryd.prog 105 3 = some 3 := by kernel_rfl
theorem zB8 : iF Tryd.prog 105 4 = some 4 := by kernel_rfl
theorem zB7 : iF Tryd.prog 105 5 = some 5 := by kernel_rfl
theorem zB6 : iF Tryd.prog 122 0 = some 0 := by kernel_rfl
theorem zB5 : iF Tryd.prog 122 1 = some 1 := by kernel_rfl
theorem zB4 : iF Tryd.prog 122 2 = some 2 := by kernel_rfl
theorem zB3 : iF Tryd.prog 122 3 = some 3 := by kernel_rfl
theorem zB2 : iF Tryd.prog 122 4 = some 4 := by kernel_rfl
theorem zB1 : iF Tryd.prog 122 5 = some 5 := by kernel_rfl
theorem zB0 : iF Tryd.prog 124 0 = some 0 := by kernel_rfl
theorem zBz : iF Tryd.prog 124 1 = some 1 := by kernel_rfl
theorem zBy : iF Tryd.prog 124 2 = some 2 := by kernel_rfl
theorem zBx : iF Tryd.prog 173 0 = some 0 := by kernel_rfl
theorem zBw : iF Tryd.prog 173 1 = some 1 := by kernel_rfl
theorem qTd : iF Tryd.prog 24 0 = some 0 := by kernel_rfl
theorem zH9 : iF Tryd.prog 24 1 = some 1 := by kernel_rfl
theorem zH8 : iF Tryd.prog 52 3 = some 3 := by kernel_rfl
theorem zH7 : iF Tryd.prog 58 0 = some 0 := by kernel_rfl
theorem zH6 : iF Tryd.prog 58 2 = some 2 := by kernel_rfl
theorem zH5 : iF Tryd.prog 58 3 = some 8 := by kernel_rfl
theorem qY9 : iF Tryd.prog 68 0 = some 0 := by kernel_rfl
theorem qTc : iF Tryd.prog 68 1 = some 1 := by kernel_rfl
theorem zBv : wT Tryd.prog 105 0 = some (0, none) := by kernel_rfl
theorem zBu : wT Tryd.prog 105 5 = some (5, none) := by kernel_rfl
theorem zH3 : wT Tryd.prog 24 0 = some (0, none) := by kernel_rfl
theorem zMy : qSf Tryd.prog 115 = some .u64 := by kernel_rfl
theorem zMx : qSf Tryd.prog 139 = some .u32 := by kernel_rfl
theorem zQl : qSf Tryd.prog 21 = some .i32 := by kernel_rfl
theorem it3 : qSf Tryd.prog 3 = some .i64 := by kernel_rfl
theorem it5 : qSf Tryd.prog 5 = some .u8 := by kernel_rfl
theorem zMw : cE Tryd.prog 100 = some none := by kernel_rfl
theorem zMv : cE Tryd.prog 101 = some none := by kernel_rfl
theorem zMu : cE Tryd.prog 105 = some (some 6) := by kernel_rfl
theorem zMt : cE Tryd.prog 119 = some none := by kernel_rfl
theorem zMs : cE Tryd.prog 120 = some none := by kernel_rfl
theorem zMr : cE Tryd.prog 122 = some (some 6) := by kernel_rfl
theorem zMq : cE Tryd.prog 124 = some (some 4) := by kernel_rfl
theorem zMp : cE Tryd.prog 173 = some (some 2) := by kernel_rfl
theorem zMo : cE Tryd.prog 174 = some (some 32) := by kernel_rfl
theorem qS1 : cE Tryd.prog 22 = some none := by kernel_rfl
theorem qU5 : cE Tryd.prog 24 = some (some 2) := by kernel_rfl
theorem kt3 : cE Tryd.prog 3 = some none := by kernel_rfl
theorem kt4 : cE Tryd.prog 4 = some none := by kernel_rfl
theorem zQj : cE Tryd.prog 43 = some none := by kernel_rfl
theorem kt5 : cE Tryd.prog 5 = some none := by kernel_rfl
theorem zQi : cE Tryd.prog 50 = some none := by kernel_rfl
theorem zQh : cE Tryd.prog 52 = some (some 4) := by kernel_rfl
theorem zQg : cE Tryd.prog 53 = some (some 3) := by kernel_rfl
theorem zNs : cE Tryd.prog 56 = some (some 6) := by kernel_rfl
theorem zQf : cE Tryd.prog 58 = some (some 14) := by kernel_rfl
theorem zKy : cE Tryd.prog 68 = some (some 3) := by kernel_rfl
theorem zQe : cE Tryd.prog 78 = some none := by kernel_rfl
theorem kt9 : cE Tryd.prog 9 = some none := by kernel_rfl
theorem zQa : qGc Tryd.prog 78 = true := by kernel_rfl
theorem zAl : cZ Tryd.prog 103 0 = some (0, 1) := by kernel_rfl
theorem zAk : cZ Tryd.prog 103 1 = some (1, 1) := by kernel_rfl
theorem zAj : cZ Tryd.prog 103 4 = some (4, 1) := by kernel_rfl
theorem zAi : cZ Tryd.prog 105 0 = some (0, 1) := by kernel_rfl
theorem zAh : cZ Tryd.prog 116 0 = some (0, 1) := by kernel_rfl
theorem zAg : cZ Tryd.prog 116 1 = some (1, 1) := by kernel_rfl
theorem zAf : cZ Tryd.prog 122 0 = some (0, 1) := by kernel_rfl
theorem zAe : cZ Tryd.prog 122 1 = some (1, 1) := by kernel_rfl
theorem zAd : cZ Tryd.prog 122 2 = some (2, 1) := by kernel_rfl
theorem zAc : cZ Tryd.prog 122 3 = some (3, 1) := by kernel_rfl
theorem zAb : cZ Tryd.prog 122 4 = some (4, 1) := by kernel_rfl
theorem zAa : cZ Tryd.prog 124 0 = some (0, 1) := by kernel_rfl
theorem qZ9 : cZ Tryd.prog 124 1 = some (1, 1) := by kernel_rfl
theorem qZ8 : cZ Tryd.prog 124 2 = some (2, 2) := by kernel_rfl
theorem qZ7 : cZ Tryd.prog 126 0 = some (0, 1) := by kernel_rfl
theorem qZ6 : cZ Tryd.prog 126 1 = some (1, 1) := by kernel_rfl
theorem qZ5 : cZ Tryd.prog 173 0 = some (0, 1) := by kernel_rfl
theorem qZ4 : cZ Tryd.prog 173 1 = some (1, 1) := by kernel_rfl
theorem qZ3 : cZ Tryd.prog 174 0 = some (0, 2) := by kernel_rfl
theorem qZ2 : cZ Tryd.prog 174 1 = some (2, 2) := by kernel_rfl
theorem qZ1 : cZ Tryd.prog 174 2 = some (4, 2) := by kernel_rfl
theorem qZ0 : cZ Tryd.prog 174 3 = some (6, 2) := by kernel_rfl
theorem qZz : cZ Tryd.prog 174 4 = some (8, 2) := by kernel_rfl
theorem zGk : cZ Tryd.prog 24 0 = some (0, 1) := by kernel_rfl
theorem zGj : cZ Tryd.prog 24 1 = some (1, 1) := by kernel_rfl
theorem zGi : cZ Tryd.prog 52 3 = some (3, 1) := by kernel_rfl
theorem zGh : cZ Tryd.prog 53 0 = some (0, 1) := by kernel_rfl
theorem zGg : cZ Tryd.prog 53 1 = some (1, 1) := by kernel_rfl
theorem zGf : cZ Tryd.prog 53 2 = some (2, 1) := by kernel_rfl
theorem zGe : cZ Tryd.prog 56 0 = some (0, 2) := by kernel_rfl
theorem zGd : cZ Tryd.prog 56 1 = some (2, 2) := by kernel_rfl
theorem zGc : cZ Tryd.prog 56 2 = some (4, 2) := by kernel_rfl
theorem zGb : cZ Tryd.prog 58 0 = some (0, 1) := by kernel_rfl
theorem zGa : cZ Tryd.prog 58 1 = some (1, 1) := by kernel_rfl
theorem zF9 : cZ Tryd.prog 58 3 = some (8, 6) := by kernel_rfl
theorem zF8 : cZ Tryd.prog 68 0 = some (0, 1) := by kernel_rfl
theorem zF7 : cZ Tryd.prog 68 1 = some (1, 2) := by kernel_rfl
theorem zMm : mF Tryd.prog 110 = some (124, 4, 48, #[.string ByteArray.empty, .int .i64 0, .int .i64 0, .string ByteArray.empty]) := by kernel_rfl
theorem qX7 : mF Tryd.prog 22 = some (68, 3, 40, #[.string ByteArray.empty, .int .i64 0, .string ByteArray.empty]) := by kernel_rfl
theorem zKl : mF Tryd.prog 38 = some (22, 1, 24, #[.slice none 0 0]) := by kernel_rfl
theorem zP7 : mF Tryd.prog 43 = some (9, 1, 16, #[.string ByteArray.empty]) := by kernel_rfl
theorem zNi : mF Tryd.prog 50 = some (58, 14, 168, #[.string ByteArray.empty, .int .i64 0, .int .i64 0, .string ByteArray.empty, .int .i64 0, .string ByteArray.empty, .int .i64 0, .string ByteArray.empty, .int .i64 0, .string ByteArray.empty, .int .i64 0, .string ByteArray.empty, .int .i64 0, .string ByteArray.empty]) := by kernel_rfl
theorem zP6 : mF Tryd.prog 91 = some (4, 1, 1, #[.bool false]) := by kernel_rfl
theorem st9 : vB Tryd.prog 9 = true := by kernel_rfl
theorem zMk : qGt Tryd.prog 171 = some (256, 1) := by kernel_rfl
theorem zMj : qGt Tryd.prog 174 = some (16, 2) := by kernel_rfl
theorem zP3 : qGt Tryd.prog 53 = some (3, 1) := by kernel_rfl
theorem zP2 : qGt Tryd.prog 56 = some (3, 2) := by kernel_rfl
theorem zMi : (Tryd.prog.underlying 115).isSome = true := by kernel_rfl
theorem zMh : (Tryd.prog.underlying 139).isSome = true := by kernel_rfl
theorem zMg : (Tryd.prog.underlying 141).isSome = true := by kernel_rfl
theorem ui3 : (Tryd.prog.underlying 3).isSome = true := by kernel_rfl
theorem ui5 : (Tryd.prog.underlying 5).isSome = true := by kernel_rfl
theorem zMf : cG Tryd.prog 110 = some (124, 4) := by kernel_rfl
theorem qGp : cG Tryd.prog 22 = some (68, 3) := by kernel_rfl
theorem qGb : cG Tryd.prog 38 = some (22, 1) := by kernel_rfl
theorem zPz : cG Tryd.prog 43 = some (9, 1) := by kernel_rfl
theorem zPy : cG Tryd.prog 50 = some (58, 14) := by kernel_rfl
theorem zPx : cG Tryd.prog 91 = some (4, 1) := by kernel_rfl
theorem zMe : eG Tryd.prog 103 = some #[.map none, .map none, .int .i64 0, .int .i64 0, .int .i64 0, .bool false] := by kernel_rfl
theorem zMd : eG Tryd.prog 105 = some #[.bool false, .string ByteArray.empty, .string ByteArray.empty, .bool false, .bool false, .int .i64 0] := by kernel_rfl
theorem zMc : eG Tryd.prog 116 = some #[.bool false, .bool false] := by kernel_rfl
theorem zMb : eG Tryd.prog 120 = some #[.map none] := by kernel_rfl
theorem zMa : eG Tryd.prog 122 = some #[.pointer none, .string ByteArray.empty, .map none, .map none, .map none, .int .i64 0] := by kernel_rfl
theorem zL9 : eG Tryd.prog 124 = some #[.string ByteArray.empty, .int .i64 0, .int .i64 0, .string ByteArray.empty] := by kernel_rfl
theorem zL8 : eG Tryd.prog 126 = some #[.string ByteArray.empty, .int .i64 0] := by kernel_rfl
theorem zL7 : eG Tryd.prog 173 = some #[.int .u8 0, .int .u8 0] := by kernel_rfl
theorem zL6 : eG Tryd.prog 174 = some #[.int .u8 0, .int .u8 0, .int .u8 0, .int .u8 0, .int .u8 0, .int .u8 0, .int .u8 0, .int .u8 0, .int .u8 0, .int .u8 0, .int .u8 0, .int .u8 0, .int .u8 0, .int .u8 0, .int .u8 0, .int .u8 0, .int .u8 0, .int .u8 0, .int .u8 0, .int .u8 0, .int .u8 0, .int .u8 0, .int .u8 0, .int .u8 0, .int .u8 0, .int .u8 0, .int .u8 0, .int .u8 0, .int .u8 0, .int .u8 0, .int .u8 0, .int .u8 0] := by kernel_rfl
theorem zPv : eG Tryd.prog 24 = some #[.int .i64 0, .string ByteArray.empty] := by kernel_rfl
theorem zt3 : eG Tryd.prog 3 = some #[.int .i64 0] := by kernel_rfl
theorem zPu : eG Tryd.prog 43 = some #[.slice none 0 0] := by kernel_rfl
theorem zPt : eG Tryd.prog 52 = some #[.int .i64 0, .int .i64 0, .int .i64 0, .slice none 0 0] := by kernel_rfl
theorem zPs : eG Tryd.prog 53 = some #[.slice none 0 0, .slice none 0 0, .slice none 0 0] := by kernel_rfl
theorem zPr : eG Tryd.prog 56 = some #[.int .i64 0, .string ByteArray.empty, .int .i64 0, .string ByteArray.empty, .int .i64 0, .string ByteArray.empty] := by kernel_rfl
theorem zPq : eG Tryd.prog 58 = some #[.string ByteArray.empty, .int .i64 0, .int .i64 0, .string ByteArray.empty, .int .i64 0, .string ByteArray.empty, .int .i64 0, .string ByteArray.empty, .int .i64 0, .string ByteArray.empty, .int .i64 0, .string ByteArray.empty, .int .i64 0, .string ByteArray.empty] := by kernel_rfl
theorem zPp : eG Tryd.prog 68 = some #[.string ByteArray.empty, .int .i64 0, .string ByteArray.empty] := by kernel_rfl
theorem zPc : aF Tryd.prog 13 = true := by kernel_rfl
theorem zE7 : aF Tryd.prog 16 = true := by kernel_rfl
theorem zQ3 : aF Tryd.prog 17 = true := by kernel_rfl
theorem qZg : aF Tryd.prog 18 = true := by kernel_rfl
theorem zSc : aF Tryd.prog 19 = true := by kernel_rfl
theorem zQ2 : aF Tryd.prog 20 = true := by kernel_rfl
theorem zLn : aF Tryd.prog 21 = true := by kernel_rfl
theorem qZf : aF Tryd.prog 22 = true := by kernel_rfl
theorem zSb : aF Tryd.prog 23 = true := by kernel_rfl
theorem zQ1 : aF Tryd.prog 24 = true := by kernel_rfl
theorem zPb : aF Tryd.prog 25 = true := by kernel_rfl
theorem zE6 : aF Tryd.prog 26 = true := by kernel_rfl
theorem zQ0 : aF Tryd.prog 27 = true := by kernel_rfl
theorem zSa : aF Tryd.prog 31 = true := by kernel_rfl
theorem qXh : aF Tryd.prog 34 = true := by kernel_rfl
theorem qZe : aF Tryd.prog 39 = true := by kernel_rfl
theorem zLm : aF Tryd.prog 40 = true := by kernel_rfl
theorem zPa : aF Tryd.prog 41 = true := by kernel_rfl
theorem zN9 : aF Tryd.prog 42 = true := by kernel_rfl
theorem zR9 : aF Tryd.prog 43 = true := by kernel_rfl
theorem zR8 : aF Tryd.prog 44 = true := by kernel_rfl
theorem zR7 : aF Tryd.prog 45 = true := by kernel_rfl
theorem zR6 : aF Tryd.prog 46 = true := by kernel_rfl
theorem zN8 : aF Tryd.prog 47 = true := by kernel_rfl
theorem zQz : aF Tryd.prog 48 = true := by kernel_rfl
theorem zQy : aF Tryd.prog 50 = true := by kernel_rfl
theorem zQx : aF Tryd.prog 51 = true := by kernel_rfl
theorem zE5 : aF Tryd.prog 52 = true := by kernel_rfl
theorem zQw : aF Tryd.prog 53 = true := by kernel_rfl
theorem zQv : aF Tryd.prog 54 = true := by kernel_rfl
theorem zR5 : aF Tryd.prog 55 = true := by kernel_rfl
theorem zR4 : aF Tryd.prog 56 = true := by kernel_rfl
theorem zQu : aF Tryd.prog 57 = true := by kernel_rfl
theorem zR3 : aF Tryd.prog 58 = true := by kernel_rfl
theorem zR2 : aF Tryd.prog 59 = true := by kernel_rfl
theorem zR1 : aF Tryd.prog 61 = true := by kernel_rfl
theorem zR0 : aF Tryd.prog 62 = true := by kernel_rfl
theorem zRz : aF Tryd.prog 69 = true := by kernel_rfl
theorem zRy : aF Tryd.prog 70 = true := by kernel_rfl
theorem zRx : aF Tryd.prog 71 = true := by kernel_rfl
theorem zRw : aF Tryd.prog 72 = true := by kernel_rfl
theorem zRv : aF Tryd.prog 73 = true := by kernel_rfl
theorem zQt : aF Tryd.prog 74 = true := by kernel_rfl
theorem zRu : aF Tryd.prog 75 = true := by kernel_rfl
theorem zRt : aF Tryd.prog 76 = true := by kernel_rfl
theorem zRs : aF Tryd.prog 77 = true := by kernel_rfl
theorem zRr : aF Tryd.prog 78 = true := by kernel_rfl
theorem zN7 : aF Tryd.prog 79 = true := by kernel_rfl
theorem zRq : aF Tryd.prog 80 = true := by kernel_rfl
theorem zN6 : aF Tryd.prog 81 = true := by kernel_rfl
theorem zRp : aF Tryd.prog 84 = true := by kernel_rfl
theorem qBr : aF Tryd.prog 94 = true := by kernel_rfl
theorem zRo : aF Tryd.prog 96 = true := by kernel_rfl
theorem zRn : aF Tryd.prog 97 = true := by kernel_rfl
theorem zRm : aF Tryd.prog 99 = true := by kernel_rfl
theorem zQ7 : aF Tryd.prog 129 = true := by kernel_rfl
theorem zQ6 : aF Tryd.prog 130 = true := by kernel_rfl
theorem zQ5 : aF Tryd.prog 150 = true := by kernel_rfl
theorem zQ4 : aF Tryd.prog 156 = true := by kernel_rfl
attribute [push_cast] qMa wW tG qDg qDf wV vE vF xC tM tR qM pX pJ pQ pN pM pW sV pH jH pV pP pR pS pT pU pL pK oQ oP oJ oK oL oM oN mP mK mR mQ mN mM kA mL mS tK tJ oW oX oV kT kS kR gN gP mH sQ sP jF kQ sE oY sF sD sC sG oZ xS sJ qCi qD1 qUd qCk vX pB vY vW vV vT qH4 pC qCl qCj vS wA qH5 vZ sH vU qDj wY xA tH wZ qMd qDk qMc qDh wX qDi qMb sL pE sN sM qF qE qJj qCq wB qCr wK tA sZ qCx sW sY wL qCy pZ tB wM pY sX qGo qBx qGn qBw vA
attribute [push_cast] List.take_succ_cons List.take_zero List.drop_succ_cons List.drop_zero true_and and_true Option.isSome_some List.getElem?_cons_zero List.getElem?_cons_succ List.length_cons List.length_nil cond_true cond_false Int.toNat_natCast Nat.mul_one Nat.add_zero Nat.zero_add Addr.add_lit bne_self_eq_false beq_self_eq_true Bool.not_true Bool.not_false List.size_toArray Array.getD_eq_getD_getElem? List.getElem?_toArray Option.getD_some decide_true decide_false eq_self Bool.true_beq Bool.false_beq List.getD_cons_zero List.getD_cons_succ List.map_cons List.map_nil List.set_cons_zero List.set_cons_succ List.replicate_zero List.toList_toArray List.all_toArray List.all_cons List.all_nil Bool.and_self Bool.and_true Bool.true_and Bool.and_false Bool.false_and List.length_map List.length_append List.length_replicate List.length_set List.cons_append List.nil_append qRy Option.isSome_some Option.isSome_none beq_true beq_false Bool.not_false Option.map_some Bool.true_or Bool.false_or Bool.or_true Bool.or_false Bool.false_xor Bool.true_xor and_self beq_self_eq_true qL6 List.flatMap_cons List.flatMap_nil List.append_nil
attribute [push_cast] zAw zS zM zX zU zBi qQu qKm qV4 qV3 qQt zG8 qP2 qU1 qU0 qUz qU2 qU3 qUy zAx qP3 qLd qLe zHk qQx qFm qQv qC6 qKs qKt qQw qKr qKo qQy qKn qKx qV8 qKw qFl qKp qV6 qV9 qKv qV7 qV5 qQ0 qWf qWc qFx qLw qLv qLx qLy qWd qWe qLm qLn qLl qLo qLr qLt qLs qLu zBj qK9 qQ4 qLb qLa qZw qRb qLp qPu qQ1 zBa cJ fV hD qPl qJi qWh qWi qWj qLq qWk qQ5 qLc qQ6 qQ7 qQ8 qLf qRa qLh qQ9 qLg qK7 qFr qFs qLi qLj qQ3 qK6 qK8 qFp qFq qFt qFu qRk zBq qWo qJd qFe qQs qKl qRj qL3 qVy qQm qL0 qXn qR8 qQn qKj zHm qL1 qL2 qF1 qF2 qWg qJp qJr qJq qF3 qPv qPx qPw zCz zAt zAu qPt qF4 qWq qWt qWr qWs qP1 qJ2 zHy zBn zBo qRe qRf qRg qRh qRi qMp qF9 zBp qWn zCy qPp zQn zHr zM2 zHq zHs zBh qV2 zH4 qWw zHl qVu qVt qVs zQq zJd zAq qK1 qUp qFn zAo qKz qPo qC7 zAp qK0 qK5 qK4 qK3 qK2 qNt dR eZ qT6 qT7 fA dA cP cB bH aR aP bC cQ bD cF dG kX aU bQ fL qQo qVp fM bG eV dZ aT aS cA bZ bP fZ bR bN fK fJ fN fH dT dU dV gW gX gY cD qW5 zMl zC0 qN8 qHw gZ fQ eB fE dX qTw qNs zBm zBl qWl zBk zHn qV1 zBf qQr zHo zBg qQg qFk qQe qC0 qKe qKf qQf qKd qKb qQi qKg qVr zA8 qQj qKc qQk qKh qVq qQh qKa qFj qUh qUi qUk qUm qJf qUn qJg qJh qFf qPm qFg qE5 qCb qHr qUj qVl qQc qVk qQd zA7 qVh zBd qQq qV0 zBe qJ8 qQb qJ9 zA6 qVg qN0 qE3 qB8 qHb qG8 qE2 qG6 qE0 qHc qHd qB3 vK qB2 qB1 uU qAt qAu qB4 qG7 qB5 qAs qAr qAp qE1 qAv vJ qAq qB6 qHf qHe qPg qJb qH8 qUf qH9 qJa qVv qFi qJw qCg qE7 zBb qQp qVz zBc qJ6 qQa qJ7 zA5 qVf qP7 qP8 qHz qCh qHx qAw qFa qFb qHy qE9 qE6 qH0 qFc qPb qUc qH1 qE8 qPa qN9 qR6 qMt qKq qFw qQz qRc qWm qLz qRd qFy qB7 vL qKu zM6 qFz
 qUs qPr zFv zA3 qVc qP5 zAy zA0 zAz zA2 zCp zCj qWz qP6 zA1 zHd zHe qNo zBr qPq zCo zCq qRo zCi zCk qWy qRv qMh qZr qTr qZs qMk ltT ltF leT leF eqT eqF tE qA1 qGv qNp
attribute [push_cast] zNf zRc bb4 zNe zNd zNc zNb zNa zM9 zM8 zM7 zPf zRb zRa zQ9 zQ8 zPe zCh zCg zCf zCe zCd zCc zCb zCa zB9 zB8 zB7 zB6 zB5 zB4 zB3 zB2 zB1 zB0 zBz zBy zBx zBw qTd zH9 zH8 zH7 zH6 zH5 qY9 qTc zBv zBu zH3 zMy zMx zQl it3 it5 zMw zMv zMu zMt zMs zMr zMq zMp zMo qS1 qU5 kt3 kt4 zQj kt5 zQi zQh zQg zNs zQf zKy zQe kt9 zQa zAl zAk zAj zAi zAh zAg zAf zAe zAd zAc zAb zAa qZ9 qZ8 qZ7 qZ6 qZ5 qZ4 qZ3 qZ2 qZ1 qZ0 qZz zGk zGj zGi zGh zGg zGf zGe zGd zGc zGb zGa zF9 zF8 zF7 zMm qX7 zKl zP7 zNi zP6 st9 zMk zMj zP3 zP2 zMi zMh zMg ui3 ui5 zMf qGp qGb zPz zPy zPx zMe zMd zMc zMb zMa zL9 zL8 zL7 zL6 zPv zt3 zPu zPt zPs zPr zPq zPp
attribute [push_cast] qMa wW tG qDg qDf wV vE vF xC tM tR qM pX pJ pQ pN pM pW sV pH jH pV pP pR pS pT pU pL pK oQ oP oJ oK oL oM oN mP mK mR mQ mN mM kA mL mS tK tJ oW oX oV kT kS kR gN gP mH sQ sP jF kQ sE oY sF sD sC sG oZ xS sJ qCi qD1 qUd qCk vX pB vY vW vV vT qH4 pC qCl qCj vS wA qH5 vZ sH vU qDj wY xA tH wZ qMd qDk qMc qDh wX qDi qMb sL pE sN sM qF qE qJj qCq wB qCr wK tA sZ qCx sW sY wL qCy pZ tB wM pY sX qGo qBx qGn qBw vA
attribute [push_cast] List.take_succ_cons List.take_zero List.drop_succ_cons List.drop_zero true_and and_true Option.isSome_some List.getElem?_cons_zero List.getElem?_cons_succ List.length_cons List.length_nil cond_true cond_false Int.toNat_natCast Nat.mul_one Nat.add_zero Nat.zero_add Addr.add_lit bne_self_eq_false beq_self_eq_true Bool.not_true Bool.not_false List.size_toArray Array.getD_eq_getD_getElem? List.getElem?_toArray Option.getD_some decide_true decide_false eq_self Bool.true_beq Bool.false_beq List.getD_cons_zero List.getD_cons_succ List.map_cons List.map_nil List.set_cons_zero List.set_cons_succ List.replicate_zero List.toList_toArray List.all_toArray List.all_cons List.all_nil Bool.and_self Bool.and_true Bool.true_and Bool.and_false Bool.false_and List.length_map List.length_append List.length_replicate List.length_set List.cons_append List.nil_append qRy Option.isSome_some Option.isSome_none beq_true beq_false Bool.not_false Option.map_some Bool.true_or Bool.false_or Bool.or_true Bool.or_false Bool.false_xor Bool.true_xor and_self beq_self_eq_true qL6 List.flatMap_cons List.flatMap_nil List.append_nil
attribute [push_cast] zAw zS zM zX zU zBi qQu qKm qV4 qV3 qQt zG8 qP2 qU1 qU0 qUz qU2 qU3 qUy zAx qP3 qLd qLe zHk qQx qFm qQv qC6 qKs qKt qQw qKr qKo qQy qKn qKx qV8 qKw qFl qKp qV6 qV9 qKv qV7 qV5 qQ0 qWf qWc qFx qLw qLv qLx qLy qWd qWe qLm qLn qLl qLo qLr qLt qLs qLu zBj qK9 qQ4 qLb qLa qZw qRb qLp qPu qQ1 zBa cJ fV hD qPl qJi qWh qWi qWj qLq qWk qQ5 qLc qQ6 qQ7 qQ8 qLf qRa qLh qQ9 qLg qK7 qFr qFs qLi qLj qQ3 qK6 qK8 qFp qFq qFt qFu qRk zBq qWo qJd qFe qQs qKl qRj qL3 qVy qQm qL0 qXn qR8 qQn qKj zHm qL1 qL2 qF1 qF2 qWg qJp qJr qJq qF3 qPv qPx qPw zCz zAt zAu qPt qF4 qWq qWt qWr qWs qP1 qJ2 zHy zBn zBo qRe qRf qRg qRh qRi qMp qF9 zBp qWn zCy qPp zQn zHr zM2 zHq zHs zBh qV2 zH4 qWw zHl qVu qVt qVs zQq zJd zAq qK1 qUp qFn zAo qKz qPo qC7 zAp qK0 qK5 qK4 qK3 qK2 qNt dR eZ qT6 qT7 fA dA cP cB bH aR aP bC cQ bD cF dG kX aU bQ fL qQo qVp fM bG eV dZ aT aS cA bZ bP fZ bR bN fK fJ fN fH dT dU dV gW gX gY cD qW5 zMl zC0 qN8 qHw gZ fQ eB fE dX qTw qNs zBm zBl qWl zBk zHn qV1 zBf qQr zHo zBg qQg qFk qQe qC0 qKe qKf qQf qKd qKb qQi qKg qVr zA8 qQj qKc qQk qKh qVq qQh qKa qFj qUh qUi qUk qUm qJf qUn qJg qJh qFf qPm qFg qE5 qCb qHr qUj qVl qQc qVk qQd zA7 qVh zBd qQq qV0 zBe qJ8 qQb qJ9 zA6 qVg qN0 qE3 qB8 qHb qG8 qE2 qG6 qE0 qHc qHd qB3 vK qB2 qB1 uU qAt qAu qB4 qG7 qB5 qAs qAr qAp qE1 qAv vJ qAq qB6 qHf qHe qPg qJb qH8 qUf qH9 qJa qVv qFi qJw qCg qE7 zBb qQp qVz zBc qJ6 qQa qJ7 zA5 qVf qP7 qP8 qHz qCh qHx qAw qFa qFb qHy qE9 qE6 qH0 qFc qPb qUc qH1 qE8 qPa qN9 qR6 qMt qKq qFw qQz qRc qWm qLz qRd qFy qB7 vL qKu zM6 qFz
 qUs qPr zFv zA3 qVc qP5 zAy zA0 zAz zA2 zCp zCj qWz qP6 zA1 zHd zHe qNo zBr qPq zCo zCq qRo zCi zCk qWy qRv qMh qZr qTr qZs qMk ltT ltF leT leF eqT eqF tE qA1 qGv qNp
attribute [push_cast] zNf zRc bb4 zNe zNd zNc zNb zNa zM9 zM8 zM7 zPf zRb zRa zQ9 zQ8 zPe zCh zCg zCf zCe zCd zCc zCb zCa zB9 zB8 zB7 zB6 zB5 zB4 zB3 zB2 zB1 zB0 zBz zBy zBx zBw qTd zH9 zH8 zH7 zH6 zH5 qY9 qTc zBv zBu zH3 zMy zMx zQl it3 it5 zMw zMv zMu zMt zMs zMr zMq zMp zMo qS1 qU5 kt3 kt4 zQj kt5 zQi zQh zQg zNs zQf zKy zQe kt9 zQa zAl zAk zAj zAi zAh zAg zAf zAe zAd zAc zAb zAa qZ9 qZ8 qZ7 qZ6 qZ5 qZ4 qZ3 qZ2 qZ1 qZ0 qZz zGk zGj zGi zGh zGg zGf zGe zGd zGc zGb zGa zF9 zF8 zF7 zMm qX7 zKl zP7 zNi zP6 st9 zMk zMj zP3 zP2 zMi zMh zMg ui3 ui5 zMf qGp qGb zPz zPy zPx zMe zMd zMc zMb zMa zL9 zL8 zL7 zL6 zPv zt3 zPu zPt zPs zPr zPq zPp
end Go.Proofs.YtkonlklieacjoaaDoor
