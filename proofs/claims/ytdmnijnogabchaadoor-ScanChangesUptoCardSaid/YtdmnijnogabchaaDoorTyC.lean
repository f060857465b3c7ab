/-
  Facts of the types, the functions' names.
-/
import Derived.Test.YtdmnijnogabchaaDoorGc
import Derived.Test.YtdmnijnogabchaaDoorProg
namespace Go.Proofs.YtdmnijnogabchaaDoor
open Go Go.Eng
theorem mixed:Tryd.prog.follows .mixedOrders=true:=by kernel_rfl
theorem bb4:qLb Tryd.prog 4=true:=by kernel_rfl
theorem zHr:cY Tryd.prog 119=true:=by kernel_rfl
theorem zHq:cY Tryd.prog 120=true:=by kernel_rfl
theorem zLw:cY Tryd.prog 29=true:=by kernel_rfl
theorem zLv:cY Tryd.prog 42=true:=by kernel_rfl
theorem zLu:cY Tryd.prog 50=true:=by kernel_rfl
theorem zLt:cY Tryd.prog 53=true:=by kernel_rfl
theorem zLs:cY Tryd.prog 66=true:=by kernel_rfl
theorem zLr:cY Tryd.prog 68=true:=by kernel_rfl
theorem zLq:cY Tryd.prog 70=true:=by kernel_rfl
theorem qZm:gH Tryd.prog 119 0=some 0:=by kernel_rfl
theorem qZl:gH Tryd.prog 119 1=some 1:=by kernel_rfl
theorem zEw:gH Tryd.prog 29 0=some 0:=by kernel_rfl
theorem zEv:gH Tryd.prog 29 1=some 1:=by kernel_rfl
theorem zEu:gH Tryd.prog 42 0=some 0:=by kernel_rfl
theorem zEt:gH Tryd.prog 42 1=some 1:=by kernel_rfl
theorem zEs:gH Tryd.prog 50 0=some 0:=by kernel_rfl
theorem zEr:gH Tryd.prog 50 1=some 1:=by kernel_rfl
theorem zEq:gH Tryd.prog 50 2=some 2:=by kernel_rfl
theorem zEp:gH Tryd.prog 50 3=some 3:=by kernel_rfl
theorem zEo:gH Tryd.prog 50 4=some 4:=by kernel_rfl
theorem zEn:gH Tryd.prog 50 5=some 5:=by kernel_rfl
theorem zEm:gH Tryd.prog 53 0=some 0:=by kernel_rfl
theorem zEl:gH Tryd.prog 53 1=some 1:=by kernel_rfl
theorem zEk:gH Tryd.prog 53 3=some 3:=by kernel_rfl
theorem zEj:gH Tryd.prog 53 4=some 4:=by kernel_rfl
theorem zEi:gH Tryd.prog 53 5=some 5:=by kernel_rfl
theorem zEh:gH Tryd.prog 66 0=some 0:=by kernel_rfl
theorem zEg:gH Tryd.prog 66 1=some 1:=by kernel_rfl
theorem zEf:gH Tryd.prog 66 2=some 2:=by kernel_rfl
theorem zEe:gH Tryd.prog 66 3=some 3:=by kernel_rfl
theorem zEd:gH Tryd.prog 66 4=some 4:=by kernel_rfl
theorem zEc:gH Tryd.prog 66 5=some 5:=by kernel_rfl
theorem zEb:gH Tryd.prog 68 0=some 0:=by kernel_rfl
theorem zEa:gH Tryd.prog 68 1=some 1:=by kernel_rfl
theorem zD9:gH Tryd.prog 68 2=some 2:=by kernel_rfl
theorem zD7:sD Tryd.prog 29 0=some (0,none):=by kernel_rfl
theorem zD6:sD Tryd.prog 53 0=some (0,none):=by kernel_rfl
theorem zD5:sD Tryd.prog 53 5=some (5,none):=by kernel_rfl
theorem zHm:qP9 Tryd.prog 100=some .u32:=by kernel_rfl
theorem zK8:qP9 Tryd.prog 21=some .i32:=by kernel_rfl
theorem it3:qP9 Tryd.prog 3=some .i64:=by kernel_rfl
theorem it5:qP9 Tryd.prog 5=some .u8:=by kernel_rfl
theorem zK7:qP9 Tryd.prog 89=some .u64:=by kernel_rfl
theorem zHj:bU Tryd.prog 119=some (some 2):=by kernel_rfl
theorem zHi:bU Tryd.prog 120=some (some 32):=by kernel_rfl
theorem zK6:bU Tryd.prog 25=some none:=by kernel_rfl
theorem zH8:bU Tryd.prog 29=some (some 2):=by kernel_rfl
theorem kt3:bU Tryd.prog 3=some none:=by kernel_rfl
theorem zK5:bU Tryd.prog 34=some none:=by kernel_rfl
theorem kt4:bU Tryd.prog 4=some none:=by kernel_rfl
theorem zK4:bU Tryd.prog 42=some (some 3):=by kernel_rfl
theorem zK3:bU Tryd.prog 47=some none:=by kernel_rfl
theorem zK2:bU Tryd.prog 48=some none:=by kernel_rfl
theorem kt5:bU Tryd.prog 5=some none:=by kernel_rfl
theorem zK1:bU Tryd.prog 53=some (some 6):=by kernel_rfl
theorem zK0:bU Tryd.prog 63=some none:=by kernel_rfl
theorem zKz:bU Tryd.prog 64=some none:=by kernel_rfl
theorem zKy:bU Tryd.prog 66=some (some 6):=by kernel_rfl
theorem zKx:bU Tryd.prog 68=some (some 4):=by kernel_rfl
theorem kt9:bU Tryd.prog 9=some none:=by kernel_rfl
theorem zKn:qD2 Tryd.prog 34=true:=by kernel_rfl
theorem qX3:dE Tryd.prog 119 0=some (0,1):=by kernel_rfl
theorem qX2:dE Tryd.prog 119 1=some (1,1):=by kernel_rfl
theorem qX1:dE Tryd.prog 120 0=some (0,2):=by kernel_rfl
theorem qX0:dE Tryd.prog 120 1=some (2,2):=by kernel_rfl
theorem qXz:dE Tryd.prog 120 2=some (4,2):=by kernel_rfl
theorem qXy:dE Tryd.prog 120 3=some (6,2):=by kernel_rfl
theorem qXx:dE Tryd.prog 120 4=some (8,2):=by kernel_rfl
theorem zC2:dE Tryd.prog 29 0=some (0,1):=by kernel_rfl
theorem zC1:dE Tryd.prog 29 1=some (1,1):=by kernel_rfl
theorem zC0:dE Tryd.prog 42 0=some (0,1):=by kernel_rfl
theorem zCz:dE Tryd.prog 42 1=some (1,2):=by kernel_rfl
theorem zCy:dE Tryd.prog 50 0=some (0,1):=by kernel_rfl
theorem zCx:dE Tryd.prog 50 1=some (1,1):=by kernel_rfl
theorem zCw:dE Tryd.prog 50 4=some (4,1):=by kernel_rfl
theorem zCv:dE Tryd.prog 53 0=some (0,1):=by kernel_rfl
theorem zCu:dE Tryd.prog 66 0=some (0,1):=by kernel_rfl
theorem zCt:dE Tryd.prog 66 1=some (1,1):=by kernel_rfl
theorem zCs:dE Tryd.prog 66 2=some (2,1):=by kernel_rfl
theorem zCr:dE Tryd.prog 66 3=some (3,1):=by kernel_rfl
theorem zCq:dE Tryd.prog 66 4=some (4,1):=by kernel_rfl
theorem zCp:dE Tryd.prog 68 0=some (0,1):=by kernel_rfl
theorem zCo:dE Tryd.prog 68 1=some (1,1):=by kernel_rfl
theorem zCn:dE Tryd.prog 68 2=some (2,2):=by kernel_rfl
theorem zCm:dE Tryd.prog 70 0=some (0,1):=by kernel_rfl
theorem zCl:dE Tryd.prog 70 1=some (1,1):=by kernel_rfl
theorem zKm:mV Tryd.prog 22=some (42,3,40,#[.string ByteArray.empty,.int .i64 0,.string ByteArray.empty]):=by kernel_rfl
theorem zKl:mV Tryd.prog 25=some (9,1,16,#[.string ByteArray.empty]):=by kernel_rfl
theorem zKk:mV Tryd.prog 58=some (68,4,48,#[.string ByteArray.empty,.int .i64 0,.int .i64 0,.string ByteArray.empty]):=by kernel_rfl
theorem st9:qU Tryd.prog 9=true:=by kernel_rfl
theorem zHd:qQa Tryd.prog 117=some (256,1):=by kernel_rfl
theorem zHc:qQa Tryd.prog 120=some (16,2):=by kernel_rfl
theorem zHb:(Tryd.prog.underlying 100).isSome=true:=by kernel_rfl
theorem zHa:(Tryd.prog.underlying 102).isSome=true:=by kernel_rfl
theorem ui3:(Tryd.prog.underlying 3).isSome=true:=by kernel_rfl
theorem ui5:(Tryd.prog.underlying 5).isSome=true:=by kernel_rfl
theorem zKg:(Tryd.prog.underlying 89).isSome=true:=by kernel_rfl
theorem zKd:bV Tryd.prog 22=some (42,3):=by kernel_rfl
theorem zKc:bV Tryd.prog 25=some (9,1):=by kernel_rfl
theorem zKb:bV Tryd.prog 58=some (68,4):=by kernel_rfl
theorem zG8:eT Tryd.prog 119=some #[.int .u8 0,.int .u8 0]:=by kernel_rfl
theorem zG7:eT Tryd.prog 120=some #[.int .u8 0,.int .u8 0,.int .u8 0,.int .u8 0,.int .u8 0,.int .u8 0,.int .u8 0,.int .u8 0,.int .u8 0,.int .u8 0,.int .u8 0,.int .u8 0,.int .u8 0,.int .u8 0,.int .u8 0,.int .u8 0,.int .u8 0,.int .u8 0,.int .u8 0,.int .u8 0,.int .u8 0,.int .u8 0,.int .u8 0,.int .u8 0,.int .u8 0,.int .u8 0,.int .u8 0,.int .u8 0,.int .u8 0,.int .u8 0,.int .u8 0,.int .u8 0]:=by kernel_rfl
theorem zJ8:eT Tryd.prog 25=some #[.slice none 0 0]:=by kernel_rfl
theorem zJ7:eT Tryd.prog 29=some #[.int .i64 0,.string ByteArray.empty]:=by kernel_rfl
theorem zt3:eT Tryd.prog 3=some #[.int .i64 0]:=by kernel_rfl
theorem zJ6:eT Tryd.prog 42=some #[.string ByteArray.empty,.int .i64 0,.string ByteArray.empty]:=by kernel_rfl
theorem zJ5:eT Tryd.prog 50=some #[.map none,.map none,.int .i64 0,.int .i64 0,.int .i64 0,.bool false]:=by kernel_rfl
theorem zJ4:eT Tryd.prog 53=some #[.bool false,.string ByteArray.empty,.string ByteArray.empty,.bool false,.bool false,.int .i64 0]:=by kernel_rfl
theorem zJ3:eT Tryd.prog 64=some #[.map none]:=by kernel_rfl
theorem zJ2:eT Tryd.prog 66=some #[.pointer none,.string ByteArray.empty,.map none,.map none,.map none,.int .i64 0]:=by kernel_rfl
theorem zJ1:eT Tryd.prog 68=some #[.string ByteArray.empty,.int .i64 0,.int .i64 0,.string ByteArray.empty]:=by kernel_rfl
theorem zJ0:eT Tryd.prog 70=some #[.string ByteArray.empty,.int .i64 0]:=by kernel_rfl
theorem cl4:aL Tryd.prog 4=true:=by kernel_rfl
theorem cl5:aL Tryd.prog 5=true:=by kernel_rfl
theorem cl6:aL Tryd.prog 6=true:=by kernel_rfl
theorem cl7:aL Tryd.prog 7=true:=by kernel_rfl
theorem cl8:aL Tryd.prog 8=true:=by kernel_rfl
theorem cl9:aL Tryd.prog 9=true:=by kernel_rfl
theorem zGw:aL Tryd.prog 10=true:=by kernel_rfl
theorem zMv:aL Tryd.prog 11=true:=by kernel_rfl
theorem zLo:aL Tryd.prog 12=true:=by kernel_rfl
theorem zMu:aL Tryd.prog 13=true:=by kernel_rfl
theorem zMt:aL Tryd.prog 14=true:=by kernel_rfl
theorem zFf:aL Tryd.prog 15=true:=by kernel_rfl
theorem zFe:aL Tryd.prog 16=true:=by kernel_rfl
theorem zMs:aL Tryd.prog 17=true:=by kernel_rfl
theorem zMr:aL Tryd.prog 18=true:=by kernel_rfl
theorem zMq:aL Tryd.prog 19=true:=by kernel_rfl
theorem zLn:aL Tryd.prog 20=true:=by kernel_rfl
theorem zJo:aL Tryd.prog 21=true:=by kernel_rfl
theorem zLm:aL Tryd.prog 22=true:=by kernel_rfl
theorem zMp:aL Tryd.prog 23=true:=by kernel_rfl
theorem zMo:aL Tryd.prog 24=true:=by kernel_rfl
theorem zLl:aL Tryd.prog 25=true:=by kernel_rfl
theorem zJn:aL Tryd.prog 26=true:=by kernel_rfl
theorem zGv:aL Tryd.prog 27=true:=by kernel_rfl
theorem zJm:aL Tryd.prog 28=true:=by kernel_rfl
theorem zLk:aL Tryd.prog 29=true:=by kernel_rfl
theorem zJl:aL Tryd.prog 30=true:=by kernel_rfl
theorem zMn:aL Tryd.prog 31=true:=by kernel_rfl
theorem zMm:aL Tryd.prog 32=true:=by kernel_rfl
theorem zLj:aL Tryd.prog 33=true:=by kernel_rfl
theorem zLi:aL Tryd.prog 34=true:=by kernel_rfl
theorem zMl:aL Tryd.prog 35=true:=by kernel_rfl
theorem zMk:aL Tryd.prog 36=true:=by kernel_rfl
theorem zMj:aL Tryd.prog 37=true:=by kernel_rfl
theorem zMi:aL Tryd.prog 38=true:=by kernel_rfl
theorem zLh:aL Tryd.prog 39=true:=by kernel_rfl
theorem zMh:aL Tryd.prog 40=true:=by kernel_rfl
theorem zMg:aL Tryd.prog 41=true:=by kernel_rfl
theorem zMf:aL Tryd.prog 42=true:=by kernel_rfl
theorem zJk:aL Tryd.prog 43=true:=by kernel_rfl
theorem zMe:aL Tryd.prog 44=true:=by kernel_rfl
theorem zMd:aL Tryd.prog 46=true:=by kernel_rfl
theorem zMc:aL Tryd.prog 48=true:=by kernel_rfl
theorem zMb:aL Tryd.prog 51=true:=by kernel_rfl
theorem zMa:aL Tryd.prog 52=true:=by kernel_rfl
theorem zL9:aL Tryd.prog 53=true:=by kernel_rfl
theorem zJj:aL Tryd.prog 58=true:=by kernel_rfl
theorem zL8:aL Tryd.prog 71=true:=by kernel_rfl
attribute [push_cast] qW9 qKa qBx qRg qRf qJ9 qEm qEn qKi qB4 qB7 wJ vW vH vP vM vL vV qBl vG oA vU vN vQ vR vS vT vK vJ uS uR uL uM uN uP uQ rN rH rQ rP rM rL rK rJ rR qB1 qB0 uX uY uW pW pV pU kP kQ rG qBf qBe nV pS qA5 uZ qA6 qA4 qA3 qA7 vA qQu qA9 qQt qWg zC3 qQw qFu vB qFv qFt qFs qFq qWe vC qQx qQv qFp qFx qWf qFw qA8 qFr qRj qKd qKf qBz qKe qXc qRk qXb qRh qKc qRi qXa qBa vD qBc qBb wD wC qWl qQ1 qF8 qQ2 qGo qBq qBp qQ8 qBm qBo qGp qQ9 vY qBr qGq vX qBn qVs qP5 qVr qP4 qEe
attribute [push_cast] List.take_succ_cons List.take_zero List.drop_succ_cons List.drop_zero true_and and_true Option.isSome_some List.getElem?_cons_zero List.getElem?_cons_succ List.length_cons List.length_nil cond_true cond_false Int.toNat_natCast Nat.mul_one Nat.add_zero Nat.zero_add Addr.add_lit bne_self_eq_false beq_self_eq_true Bool.not_true Bool.not_false List.size_toArray Array.getD_eq_getD_getElem? List.getElem?_toArray Option.getD_some decide_true decide_false eq_self Bool.true_beq Bool.false_beq List.getD_cons_zero List.getD_cons_succ List.map_cons List.map_nil List.set_cons_zero List.set_cons_succ List.replicate_zero List.toList_toArray List.all_toArray List.all_cons List.all_nil Bool.and_self Bool.and_true Bool.true_and Bool.and_false Bool.false_and List.length_map List.length_append List.length_replicate List.length_set List.cons_append List.nil_append qPo Option.isSome_some Option.isSome_none beq_true beq_false Bool.not_false Option.map_some Bool.true_or Bool.false_or Bool.or_true Bool.or_false Bool.false_xor Bool.true_xor and_self beq_self_eq_true qJ6 List.flatMap_cons List.flatMap_nil List.append_nil
attribute [push_cast] qYh zS zM zX zU qY9 qNn qHk qTz qTy qNm zDe qMq qS2 qS1 qS0 qS3 qS4 qSz qYi qMr qJd qJe zDq qNq qDc qNo qAb qHq qHr qNp qHp qHm qNr qHl qHv qT3 qHu qDb qHn qT1 qT4 qHt qT2 qT0 qNt qUb qT8 qDn qJw qJv qJx qJy qT9 qUa qJm qJn qJl qJo qJr qJt qJs qJu qZa qH9 qNy qJb qJa qXw qN5 qJp qMj qNu qY1 rY qYy qRb qL9 qF7 qUd qUe qUf qJq qUg qNz qJc qN0 qN1 qN2 qJf qN4 qJh qN3 qJg qH7 qDh qDi qJi qJj qNx qH6 qH8 qDf qDg qDj qDk qPe qZh qUk qF3 qC1 qNl qHj qPd qJ3 qTt qNg qJ0 qVe qPv qNh qHh zDt qJ1 qJ2 qDr qDs qUc qGd qGf qGe qDt qMk qMm qMl qZz qYc qYd qMi qDu qUm qUp qUn qUo qMp qGn zD2 qZe qZf qN8 qN9 qPa qPb qPc qKo qDx qZg qUj qZy qMc zLa zDz zHn zDy zD0 qY8 qTx zD8 qUt zDr qTo qTn qTm zLd zEy qX8 qHz qSq qDd qX5 qHx qMb qAc qX6 qHy qH4 qH3 qH1 qH0 qLk xU qE9 qR6 qR7 qFe rX oP pA mP oF lY rB rC rD zF qW1 qWz oT qG5 qGv oU qTj qGw mJ qM8 qBt oS oR oV oQ qG4 qTi qG6 qG3 qGu qGt qGx qGs qQm qQn qQo qQj qQk qQl xR qU4 zHe qZ0 qLy qFi qQq qKb qBy qEp qAw qRy qLj qZd qZc qUh qZb zDu qTw qY6 qNk zDv qY7 qNb qDa qM9 xY qHb qHc qNa qHa qG8 qNd qHd qTl qYz qNe qG9 qNf qHe qTk qNc qG7 qC9 qSj qSk qSm qSo qF4 qSp qF5 qF6 qC2 qMa qC3 qCs xH qFc qSl qTf qM5 qTe qM6 qYx qTd qY4 qNj qTv qY5 qG0 qM4 qG1 qYs qTb qLp qCp xC qE2 qEz qCo qEx qCm qE3 qE4 wX qX wW wV qM uB uC wY qEy wZ uA tZ tX qCn uD qW tY xA qE6 qE5 qL6 qF2 qFy qSf qFz qF0 qTp qC6 qGi xL qCu qY2 qNi qTu qY3 qGy qM3 qGz qYr qTa qMv qMw qFl xM qFj uE qCx qCy qFk qCw qCt qFm qCz qL1 qSe qFn qCv qL0 qLz qPt qKq qHo qDm qAf qNs qN6 qUi qJz qN7 qDo xB qY qHs zHo qDp
 qSt qMe zB9 qYp qS8 qMt qYk qYm qYl qYo qZt qZo qUx qMu qYn zDo zDp qLc qZi qE7 qCr qMd qZs qZu qPg qZn qZp qUw qPm qKj qXt qRu qXu qKm ltT ltF leT leF eqT eqF sC zKa qEg qLd
attribute [push_cast] bb4 zHr zHq zLw zLv zLu zLt zLs zLr zLq qZm qZl zEw zEv zEu zEt zEs zEr zEq zEp zEo zEn zEm zEl zEk zEj zEi zEh zEg zEf zEe zEd zEc zEb zEa zD9 zD7 zD6 zD5 zHm zK8 it3 it5 zK7 zHj zHi zK6 zH8 kt3 zK5 kt4 zK4 zK3 zK2 kt5 zK1 zK0 zKz zKy zKx kt9 zKn qX3 qX2 qX1 qX0 qXz qXy qXx zC2 zC1 zC0 zCz zCy zCx zCw zCv zCu zCt zCs zCr zCq zCp zCo zCn zCm zCl zKm zKl zKk st9 zHd zHc zHb zHa ui3 ui5 zKg zKd zKc zKb zG8 zG7 zJ8 zJ7 zt3 zJ6 zJ5 zJ4 zJ3 zJ2 zJ1 zJ0
attribute [push_cast] qW9 qKa qBx qRg qRf qJ9 qEm qEn qKi qB4 qB7 wJ vW vH vP vM vL vV qBl vG oA vU vN vQ vR vS vT vK vJ uS uR uL uM uN uP uQ rN rH rQ rP rM rL rK rJ rR qB1 qB0 uX uY uW pW pV pU kP kQ rG qBf qBe nV pS qA5 uZ qA6 qA4 qA3 qA7 vA qQu qA9 qQt qWg zC3 qQw qFu vB qFv qFt qFs qFq qWe vC qQx qQv qFp qFx qWf qFw qA8 qFr qRj qKd qKf qBz qKe qXc qRk qXb qRh qKc qRi qXa qBa vD qBc qBb wD wC qWl qQ1 qF8 qQ2 qGo qBq qBp qQ8 qBm qBo qGp qQ9 vY qBr qGq vX qBn qVs qP5 qVr qP4 qEe
attribute [push_cast] List.take_succ_cons List.take_zero List.drop_succ_cons List.drop_zero true_and and_true Option.isSome_some List.getElem?_cons_zero List.getElem?_cons_succ List.length_cons List.length_nil cond_true cond_false Int.toNat_natCast Nat.mul_one Nat.add_zero Nat.zero_add Addr.add_lit bne_self_eq_false beq_self_eq_true Bool.not_true Bool.not_false List.size_toArray Array.getD_eq_getD_getElem? List.getElem?_toArray Option.getD_some decide_true decide_false eq_self Bool.true_beq Bool.false_beq List.getD_cons_zero List.getD_cons_succ List.map_cons List.map_nil List.set_cons_zero List.set_cons_succ List.replicate_zero List.toList_toArray List.all_toArray List.all_cons List.all_nil Bool.and_self Bool.and_true Bool.true_and Bool.and_false Bool.false_and List.length_map List.length_append List.length_replicate List.length_set List.cons_append List.nil_append qPo Option.isSome_some Option.isSome_none beq_true beq_false Bool.not_false Option.map_some Bool.true_or Bool.false_or Bool.or_true Bool.or_false Bool.false_xor Bool.true_xor and_self beq_self_eq_true qJ6 List.flatMap_cons List.flatMap_nil List.append_nil
attribute [push_cast] qYh zS zM zX zU qY9 qNn qHk qTz qTy qNm zDe qMq qS2 qS1 qS0 qS3 qS4 qSz qYi qMr qJd qJe zDq qNq qDc qNo qAb qHq qHr qNp qHp qHm qNr qHl qHv qT3 qHu qDb qHn qT1 qT4 qHt qT2 qT0 qNt qUb qT8 qDn qJw qJv qJx qJy qT9 qUa qJm qJn qJl qJo qJr qJt qJs qJu qZa qH9 qNy qJb qJa qXw qN5 qJp qMj qNu qY1 rY qYy qRb qL9 qF7 qUd qUe qUf qJq qUg qNz qJc qN0 qN1 qN2 qJf qN4 qJh qN3 qJg qH7 qDh qDi qJi qJj qNx qH6 qH8 qDf qDg qDj qDk qPe qZh qUk qF3 qC1 qNl qHj qPd qJ3 qTt qNg qJ0 qVe qPv qNh qHh zDt qJ1 qJ2 qDr qDs qUc qGd qGf qGe qDt qMk qMm qMl qZz qYc qYd qMi qDu qUm qUp qUn qUo qMp qGn zD2 qZe qZf qN8 qN9 qPa qPb qPc qKo qDx qZg qUj qZy qMc zLa zDz zHn zDy zD0 qY8 qTx zD8 qUt zDr qTo qTn qTm zLd zEy qX8 qHz qSq qDd qX5 qHx qMb qAc qX6 qHy qH4 qH3 qH1 qH0 qLk xU qE9 qR6 qR7 qFe rX oP pA mP oF lY rB rC rD zF qW1 qWz oT qG5 qGv oU qTj qGw mJ qM8 qBt oS oR oV oQ qG4 qTi qG6 qG3 qGu qGt qGx qGs qQm qQn qQo qQj qQk qQl xR qU4 zHe qZ0 qLy qFi qQq qKb qBy qEp qAw qRy qLj qZd qZc qUh qZb zDu qTw qY6 qNk zDv qY7 qNb qDa qM9 xY qHb qHc qNa qHa qG8 qNd qHd qTl qYz qNe qG9 qNf qHe qTk qNc qG7 qC9 qSj qSk qSm qSo qF4 qSp qF5 qF6 qC2 qMa qC3 qCs xH qFc qSl qTf qM5 qTe qM6 qYx qTd qY4 qNj qTv qY5 qG0 qM4 qG1 qYs qTb qLp qCp xC qE2 qEz qCo qEx qCm qE3 qE4 wX qX wW wV qM uB uC wY qEy wZ uA tZ tX qCn uD qW tY xA qE6 qE5 qL6 qF2 qFy qSf qFz qF0 qTp qC6 qGi xL qCu qY2 qNi qTu qY3 qGy qM3 qGz qYr qTa qMv qMw qFl xM qFj uE qCx qCy qFk qCw qCt qFm qCz qL1 qSe qFn qCv qL0 qLz qPt qKq qHo qDm qAf qNs qN6 qUi qJz qN7 qDo xB qY qHs zHo qDp
 qSt qMe zB9 qYp qS8 qMt qYk qYm qYl qYo qZt qZo qUx qMu qYn zDo zDp qLc qZi qE7 qCr qMd qZs qZu qPg qZn qZp qUw qPm qKj qXt qRu qXu qKm ltT ltF leT leF eqT eqF sC zKa qEg qLd
attribute [push_cast] bb4 zHr zHq zLw zLv zLu zLt zLs zLr zLq qZm qZl zEw zEv zEu zEt zEs zEr zEq zEp zEo zEn zEm zEl zEk zEj zEi zEh zEg zEf zEe zEd zEc zEb zEa zD9 zD7 zD6 zD5 zHm zK8 it3 it5 zK7 zHj zHi zK6 zH8 kt3 zK5 kt4 zK4 zK3 zK2 kt5 zK1 zK0 zKz zKy zKx kt9 zKn qX3 qX2 qX1 qX0 qXz qXy qXx zC2 zC1 zC0 zCz zCy zCx zCw zCv zCu zCt zCs zCr zCq zCp zCo zCn zCm zCl zKm zKl zKk st9 zHd zHc zHb zHa ui3 ui5 zKg zKd zKc zKb zG8 zG7 zJ8 zJ7 zt3 zJ6 zJ5 zJ4 zJ3 zJ2 zJ1 zJ0
attribute [push_cast] zGd yF zAr yG zBs yL zA9 zDk zDl zDm zDn Option.getD_some Option.map_some Option.map_none Nat.zero_add qW1 qG5 qG4 qG3 qG6 qQm qQo qQn List.map_cons List.map_nil implies_true and_self true_and and_true true_implies false_implies Int.toNat_natCast Bool.or_true Bool.or_false Bool.and_true Bool.and_false
end Go.Proofs.YtdmnijnogabchaaDoor
