/-
  Facts of the types, the functions' names.
-/
import Derived.Test.YtmgilahhnbopmaaGc
import Derived.Test.YtmgilahhnbopmaaProg
namespace Go.Proofs.Ytmgilahhnbopmaa
open Go Go.Eng
theorem mixed:Try.prog.follows .mixedOrders=true:=by kernel_rfl
theorem zLe:qM8 Try.prog 36=some (3,none):=by kernel_rfl
theorem bb4:qNq Try.prog 4=true:=by kernel_rfl
theorem zLd:gW Try.prog 33=true:=by kernel_rfl
theorem zLc:gW Try.prog 36=true:=by kernel_rfl
theorem zLb:gW Try.prog 43=true:=by kernel_rfl
theorem zLa:gW Try.prog 49=true:=by kernel_rfl
theorem zK9:gW Try.prog 59=true:=by kernel_rfl
theorem zK8:gW Try.prog 71=true:=by kernel_rfl
theorem zK7:gW Try.prog 80=true:=by kernel_rfl
theorem zF0:qMt Try.prog 9 53=true:=by kernel_rfl
theorem zFp:nT Try.prog 33 0=some 0:=by kernel_rfl
theorem zFo:nT Try.prog 33 1=some 1:=by kernel_rfl
theorem zFn:nT Try.prog 33 2=some 2:=by kernel_rfl
theorem zFm:nT Try.prog 33 3=some 3:=by kernel_rfl
theorem zFl:nT Try.prog 43 0=some 0:=by kernel_rfl
theorem zFk:nT Try.prog 43 1=some 1:=by kernel_rfl
theorem zFj:nT Try.prog 43 2=some 2:=by kernel_rfl
theorem zFi:nT Try.prog 43 3=some 3:=by kernel_rfl
theorem zFh:nT Try.prog 43 4=some 4:=by kernel_rfl
theorem zFg:nT Try.prog 43 5=some 5:=by kernel_rfl
theorem zFf:nT Try.prog 43 6=some 6:=by kernel_rfl
theorem zFe:nT Try.prog 71 0=some 0:=by kernel_rfl
theorem zFd:nT Try.prog 71 1=some 1:=by kernel_rfl
theorem zFc:nT Try.prog 80 0=some 0:=by kernel_rfl
theorem zFb:nT Try.prog 80 1=some 1:=by kernel_rfl
theorem zE8:nT Try.prog 94 0=some 0:=by kernel_rfl
theorem zE7:nT Try.prog 94 1=some 1:=by kernel_rfl
theorem it3:qS8 Try.prog 3=some .i64:=by kernel_rfl
theorem zKu:qS8 Try.prog 72=some .u64:=by kernel_rfl
theorem zKt:qS8 Try.prog 84=some .u32:=by kernel_rfl
theorem zKs:qS8 Try.prog 87=some .u64:=by kernel_rfl
theorem zKr:dG Try.prog 22=some none:=by kernel_rfl
theorem kt3:dG Try.prog 3=some none:=by kernel_rfl
theorem qSl:dG Try.prog 31=some none:=by kernel_rfl
theorem zKq:dG Try.prog 33=some (some 4):=by kernel_rfl
theorem zKp:dG Try.prog 39=some none:=by kernel_rfl
theorem kt4:dG Try.prog 4=some none:=by kernel_rfl
theorem zKo:dG Try.prog 43=some (some 7):=by kernel_rfl
theorem kt5:dG Try.prog 5=some none:=by kernel_rfl
theorem zKn:dG Try.prog 53=some none:=by kernel_rfl
theorem zKm:dG Try.prog 59=some (some 2):=by kernel_rfl
theorem zKl:dG Try.prog 71=some (some 2):=by kernel_rfl
theorem zEi:dG Try.prog 78=some none:=by kernel_rfl
theorem qG9:dG Try.prog 80=some (some 2):=by kernel_rfl
theorem qX4:dG Try.prog 82=some none:=by kernel_rfl
theorem kt9:dG Try.prog 9=some none:=by kernel_rfl
theorem zKk:dG Try.prog 92=some none:=by kernel_rfl
theorem zKi:qG7 Try.prog 92=true:=by kernel_rfl
theorem zDz:iQ Try.prog 33 0=some (0,1):=by kernel_rfl
theorem zDy:iQ Try.prog 33 1=some (1,1):=by kernel_rfl
theorem zDx:iQ Try.prog 33 2=some (2,1):=by kernel_rfl
theorem zDw:iQ Try.prog 33 3=some (3,1):=by kernel_rfl
theorem zDv:iQ Try.prog 36 0=some (0,1):=by kernel_rfl
theorem zDu:iQ Try.prog 36 1=some (1,1):=by kernel_rfl
theorem zDt:iQ Try.prog 36 2=some (2,1):=by kernel_rfl
theorem zDs:iQ Try.prog 43 0=some (0,1):=by kernel_rfl
theorem zDr:iQ Try.prog 43 1=some (1,1):=by kernel_rfl
theorem zDq:iQ Try.prog 43 2=some (2,1):=by kernel_rfl
theorem zDp:iQ Try.prog 49 0=some (0,1):=by kernel_rfl
theorem zDo:iQ Try.prog 49 1=some (1,1):=by kernel_rfl
theorem zDn:iQ Try.prog 49 2=some (2,1):=by kernel_rfl
theorem zDm:iQ Try.prog 59 0=some (0,1):=by kernel_rfl
theorem zDl:iQ Try.prog 59 1=some (1,1):=by kernel_rfl
theorem zDk:iQ Try.prog 71 0=some (0,1):=by kernel_rfl
theorem zDj:iQ Try.prog 71 1=some (1,1):=by kernel_rfl
theorem zDi:iQ Try.prog 80 0=some (0,1):=by kernel_rfl
theorem zDh:iQ Try.prog 80 1=some (1,1):=by kernel_rfl
theorem zKf:mF Try.prog 22=some (33,4,80,#[.bool false,.slice none 0 0,.slice none 0 0,.slice none 0 0]):=by kernel_rfl
theorem zGq:mF Try.prog 30=some (31,1,24,#[.slice none 0 0]):=by kernel_rfl
theorem zGp:mF Try.prog 31=some (9,1,16,#[.string ByteArray.empty]):=by kernel_rfl
theorem zKe:mF Try.prog 39=some (3,1,8,#[.int .i64 0]):=by kernel_rfl
theorem zKd:mF Try.prog 47=some (49,3,24,#[.int .i64 0,.int .i64 0,.int .i64 0]):=by kernel_rfl
theorem zKc:mF Try.prog 53=some (5,1,1,#[.int .u8 0]):=by kernel_rfl
theorem zKb:mF Try.prog 55=some (59,2,16,#[.int .i64 0,.int .i64 0]):=by kernel_rfl
theorem zDb:mF Try.prog 67=some (71,2,16,#[.int .i64 0,.int .i64 0]):=by kernel_rfl
theorem zH1:mF Try.prog 78=some (82,1,2,#[.int .i16 0]):=by kernel_rfl
theorem zKa:mF Try.prog 90=some (39,1,24,#[.slice none 0 0]):=by kernel_rfl
theorem zJ9:yS Try.prog 53=false:=by kernel_rfl
theorem st9:yS Try.prog 9=true:=by kernel_rfl
theorem zJ8:qRu Try.prog 49=some (3,1):=by kernel_rfl
theorem zJ7:qRu Try.prog 59=some (2,1):=by kernel_rfl
theorem zHm:(Try.prog.underlying 102).isSome=true:=by kernel_rfl
theorem ui3:(Try.prog.underlying 3).isSome=true:=by kernel_rfl
theorem ui5:(Try.prog.underlying 5).isSome=true:=by kernel_rfl
theorem zJ6:(Try.prog.underlying 72).isSome=true:=by kernel_rfl
theorem zJ5:(Try.prog.underlying 84).isSome=true:=by kernel_rfl
theorem zJ4:(Try.prog.underlying 87).isSome=true:=by kernel_rfl
theorem ui9:(Try.prog.underlying 9).isSome=true:=by kernel_rfl
theorem zJ3:(Try.prog.underlying 92).isSome=true:=by kernel_rfl
theorem zJ0:cN Try.prog 22=some (33,4):=by kernel_rfl
theorem qG6:cN Try.prog 30=some (31,1):=by kernel_rfl
theorem pZ:cN Try.prog 31=some (9,1):=by kernel_rfl
theorem zJz:cN Try.prog 39=some (3,1):=by kernel_rfl
theorem zJy:cN Try.prog 47=some (49,3):=by kernel_rfl
theorem zJx:cN Try.prog 53=some (5,1):=by kernel_rfl
theorem zJw:cN Try.prog 55=some (59,2):=by kernel_rfl
theorem qXf:cN Try.prog 67=some (71,2):=by kernel_rfl
theorem qXe:cN Try.prog 78=some (82,1):=by kernel_rfl
theorem zJv:cN Try.prog 90=some (39,1):=by kernel_rfl
theorem zJu:kH Try.prog 33=some #[.bool false,.slice none 0 0,.slice none 0 0,.slice none 0 0]:=by kernel_rfl
theorem zJt:kH Try.prog 36=some #[.string ByteArray.empty,.string ByteArray.empty,.string ByteArray.empty]:=by kernel_rfl
theorem zJs:kH Try.prog 43=some #[.slice none 0 0,.slice none 0 0,.slice none 0 0,.int .i64 0,.int .i64 0,.int .i64 0,.slice none 0 0]:=by kernel_rfl
theorem zJr:kH Try.prog 49=some #[.int .i64 0,.int .i64 0,.int .i64 0]:=by kernel_rfl
theorem zJq:kH Try.prog 59=some #[.int .i64 0,.int .i64 0]:=by kernel_rfl
theorem zJp:kH Try.prog 71=some #[.int .i64 0,.int .i64 0]:=by kernel_rfl
theorem zA8:kH Try.prog 80=some #[.int .i64 0,.slice none 0 0]:=by kernel_rfl
theorem zJo:kH Try.prog 94=some #[.pointer none,.slice none 0 0]:=by kernel_rfl
theorem cl4:aM Try.prog 4=true:=by kernel_rfl
theorem cl5:aM Try.prog 5=true:=by kernel_rfl
theorem cl6:aM Try.prog 6=true:=by kernel_rfl
theorem cl7:aM Try.prog 7=true:=by kernel_rfl
theorem cl8:aM Try.prog 8=true:=by kernel_rfl
theorem cl9:aM Try.prog 9=true:=by kernel_rfl
theorem zCk:aM Try.prog 10=true:=by kernel_rfl
theorem zG8:aM Try.prog 11=true:=by kernel_rfl
theorem qWn:aM Try.prog 12=true:=by kernel_rfl
theorem qYk:aM Try.prog 13=true:=by kernel_rfl
theorem zK6:aM Try.prog 14=true:=by kernel_rfl
theorem zG7:aM Try.prog 15=true:=by kernel_rfl
theorem zLz:aM Try.prog 16=true:=by kernel_rfl
theorem zLy:aM Try.prog 17=true:=by kernel_rfl
theorem zJg:aM Try.prog 18=true:=by kernel_rfl
theorem zLx:aM Try.prog 19=true:=by kernel_rfl
theorem zLw:aM Try.prog 20=true:=by kernel_rfl
theorem zLv:aM Try.prog 21=true:=by kernel_rfl
theorem zLu:aM Try.prog 22=true:=by kernel_rfl
theorem qSz:aM Try.prog 23=true:=by kernel_rfl
theorem zK5:aM Try.prog 24=true:=by kernel_rfl
theorem zJf:aM Try.prog 25=true:=by kernel_rfl
theorem zCj:aM Try.prog 26=true:=by kernel_rfl
theorem zK4:aM Try.prog 27=true:=by kernel_rfl
theorem zLt:aM Try.prog 28=true:=by kernel_rfl
theorem zLs:aM Try.prog 30=true:=by kernel_rfl
theorem zLr:aM Try.prog 31=true:=by kernel_rfl
theorem zLq:aM Try.prog 32=true:=by kernel_rfl
theorem zLp:aM Try.prog 33=true:=by kernel_rfl
theorem zLo:aM Try.prog 34=true:=by kernel_rfl
theorem zLn:aM Try.prog 39=true:=by kernel_rfl
theorem zFv:aM Try.prog 40=true:=by kernel_rfl
theorem zLm:aM Try.prog 42=true:=by kernel_rfl
theorem zLl:aM Try.prog 43=true:=by kernel_rfl
attribute [push_cast] qMl qAz vY qEc qEb qAy yU yV qA4 wG wM sJ rP rA rG rE rD rN vG qZ kY rM rF rH rJ rK rL rC rB qJ qH qC qD qE qF qG oH oC oK oJ oG oF oE oD oL wE wD qQ qR qP mQ mP mN jE jF oA uX uW kU mM uM qS uN uL uK uP qT qDj uR qDi qJl qT1 qDl qAh qU qAi qAg qAf qAd qJj qV qDm qDk qAc qAk qJk qAj uQ qAe qEf qA1 qA3 vZ qA2 qMo qEg qMn qEd qA0 qEe qMm uT qW uV uU rZ rY qJw qDp qAl qDq qAs vM vL qDu vH vK qAt qDv rR vN qAu rQ vJ qHl qC1 qHk qC0 yR
attribute [push_cast] List.take_succ_cons List.take_zero List.drop_succ_cons List.drop_zero true_and and_true Option.isSome_some List.getElem?_cons_zero List.getElem?_cons_succ List.length_cons List.length_nil cond_true cond_false Int.toNat_natCast Nat.mul_one Nat.add_zero Nat.zero_add Addr.add_lit bne_self_eq_false beq_self_eq_true Bool.not_true Bool.not_false List.size_toArray Array.getD_eq_getD_getElem? List.getElem?_toArray Option.getD_some decide_true decide_false eq_self Bool.true_beq Bool.false_beq List.getD_cons_zero List.getD_cons_succ List.map_cons List.map_nil List.set_cons_zero List.set_cons_succ List.replicate_zero List.toList_toArray List.all_toArray List.all_cons List.all_nil Bool.and_self Bool.and_true Bool.true_and Bool.and_false Bool.false_and List.length_map List.length_append List.length_replicate List.length_set List.cons_append List.nil_append qRe Option.isSome_some Option.isSome_none beq_true beq_false Bool.not_false Option.map_some Bool.true_or Bool.false_or Bool.or_true Bool.or_false Bool.false_xor Bool.true_xor and_self beq_self_eq_true qMh List.flatMap_cons List.flatMap_nil List.append_nil
attribute [push_cast] qUh zS zM zX zU qZ6 qQj qKw qVf qVe qQi zEg qPu qUm qUl qUk qUn qUo qUj qZj qPv qLn qLo zEu qQm qGe qQk qD3 qK2 qK3 qQl qK1 qKy qQn qKx qK7 qVj qK6 qGd qKz qVh qVk qK5 qVi qVg qQp qVr qVo qGp qL6 qL5 qL7 qL8 qVp qVq qLw qLx qLv qLy qL1 qL3 qL2 qL4 qZ7 qLj qQs qLl qLk qY7 qQz qLz qPm qQq qZy oQ fQ bK qPe qJv qVt qVu qVv qL0 qVw qQt qLm qQu qQv qQw qLp qQy qLr qQx qLq qLh qGj qGk qLs qLt qQr qLg qLi qGh qGi qGl qGm qQ8 zAe qV0 qJq qF3 qQh qKv qQ7 qMd qU9 qQc qMa qWy qRl qQd qKu zEw qMb qMc qGt qGu qVs qJx qJz qJy qGv qPn qPp qPo zAy qZf qZg qPl qGw qV2 qV5 qV3 qV4 qPt qJ6 zE3 zAb zAc qQ2 qQ3 qQ4 qQ5 qQ6 qM1 qG3 zAd qVz zAx qPh zKx zE1 zHs zE0 zE2 qZ5 qVd zE5 qV9 zEv qU6 qU5 qU4 zFr qMj qZd qLb qUc qGf qZb qK9 qPg qD4 qZc qLa qLf qLe qLd qLc qNu sZ yZ qTq qTr qAb oN lX mE jZ gK fL iC iD iE jN gS cC gP eC aX mA qU1 aY fR dD aK gN gM mB lZ eB eF eD dZ aW aV aZ aU fG fH fJ bF bG bH jM qWh zHn zAz qN6 qJb bJ bC aL aT aJ mK kC zAa qZ9 qVx qZ8 zEx qVc qZ3 qQg zEy qZ4 qP7 qGb qP5 qDx qKo qKp qP6 qKn qKl qP9 qKq qU3 qZw qQa qKm qQb qKr qU2 qP8 qKk qGa qT3 qT4 qT6 qT8 qJs qUa qJt qJu qF4 qPf qF5 qFt qDd qH9 qT5 qUy qP3 qUx qP4 qZv qUw qZ1 qQf qVb qZ2 qKi qP2 qKj qZu qUv qNz qFp qDb qHz qHw qFo qHu qFm qH0 qH1 qC6 yX qC5 qC4 xV qCc qCd qC7 qHv qC8 qCb qCa qB8 qFn qCe qM qB9 qC9 qH3 qH2 qPb qJp qJm qT2 qJn qJo qU7 qF7 qJ3 qDg qFw qZz qQe qVa qZ0 qKg qP1 qKh qZt qUu qPz qP0 qJe qDh qJc qCg qFz qF0 qJd qFy qFv qJf qF1 qN9 qT0 qJg qFx qN8 qN7 qRj qM4 qK0 qGo qD7 qQo qQ0 qVy qL9 qQ1 qGq qDa yY qK4 zHt qGr
 qUd qPj zDa qZr qUt qPx qZm qZo qZn qZq zAo zAi qWb qPy qZp zEp zEq qNr zAf qH4 qFr qPi zAn zAp qRb zAh zAj qWa qRd qMr qYz qTg qY0 qMu ltT ltF leT leF eqT eqF iG qNf qHp qNs
attribute [push_cast] zLe bb4 zLd zLc zLb zLa zK9 zK8 zK7 zF0 zFp zFo zFn zFm zFl zFk zFj zFi zFh zFg zFf zFe zFd zFc zFb zE8 zE7 it3 zKu zKt zKs zKr kt3 qSl zKq zKp kt4 zKo kt5 zKn zKm zKl zEi qG9 qX4 kt9 zKk zKi zDz zDy zDx zDw zDv zDu zDt zDs zDr zDq zDp zDo zDn zDm zDl zDk zDj zDi zDh zKf zGq zGp zKe zKd zKc zKb zDb zH1 zKa zJ9 st9 zJ8 zJ7 zHm ui3 ui5 zJ6 zJ5 zJ4 ui9 zJ3 zJ0 qG6 pZ zJz zJy zJx zJw qXf qXe zJv zJu zJt zJs zJr zJq zJp zA8 zJo
attribute [push_cast] qMl qAz vY qEc qEb qAy yU yV qA4 wG wM sJ rP rA rG rE rD rN vG qZ kY rM rF rH rJ rK rL rC rB qJ qH qC qD qE qF qG oH oC oK oJ oG oF oE oD oL wE wD qQ qR qP mQ mP mN jE jF oA uX uW kU mM uM qS uN uL uK uP qT qDj uR qDi qJl qT1 qDl qAh qU qAi qAg qAf qAd qJj qV qDm qDk qAc qAk qJk qAj uQ qAe qEf qA1 qA3 vZ qA2 qMo qEg qMn qEd qA0 qEe qMm uT qW uV uU rZ rY qJw qDp qAl qDq qAs vM vL qDu vH vK qAt qDv rR vN qAu rQ vJ qHl qC1 qHk qC0 yR
attribute [push_cast] List.take_succ_cons List.take_zero List.drop_succ_cons List.drop_zero true_and and_true Option.isSome_some List.getElem?_cons_zero List.getElem?_cons_succ List.length_cons List.length_nil cond_true cond_false Int.toNat_natCast Nat.mul_one Nat.add_zero Nat.zero_add Addr.add_lit bne_self_eq_false beq_self_eq_true Bool.not_true Bool.not_false List.size_toArray Array.getD_eq_getD_getElem? List.getElem?_toArray Option.getD_some decide_true decide_false eq_self Bool.true_beq Bool.false_beq List.getD_cons_zero List.getD_cons_succ List.map_cons List.map_nil List.set_cons_zero List.set_cons_succ List.replicate_zero List.toList_toArray List.all_toArray List.all_cons List.all_nil Bool.and_self Bool.and_true Bool.true_and Bool.and_false Bool.false_and List.length_map List.length_append List.length_replicate List.length_set List.cons_append List.nil_append qRe Option.isSome_some Option.isSome_none beq_true beq_false Bool.not_false Option.map_some Bool.true_or Bool.false_or Bool.or_true Bool.or_false Bool.false_xor Bool.true_xor and_self beq_self_eq_true qMh List.flatMap_cons List.flatMap_nil List.append_nil
attribute [push_cast] qUh zS zM zX zU qZ6 qQj qKw qVf qVe qQi zEg qPu qUm qUl qUk qUn qUo qUj qZj qPv qLn qLo zEu qQm qGe qQk qD3 qK2 qK3 qQl qK1 qKy qQn qKx qK7 qVj qK6 qGd qKz qVh qVk qK5 qVi qVg qQp qVr qVo qGp qL6 qL5 qL7 qL8 qVp qVq qLw qLx qLv qLy qL1 qL3 qL2 qL4 qZ7 qLj qQs qLl qLk qY7 qQz qLz qPm qQq qZy oQ fQ bK qPe qJv qVt qVu qVv qL0 qVw qQt qLm qQu qQv qQw qLp qQy qLr qQx qLq qLh qGj qGk qLs qLt qQr qLg qLi qGh qGi qGl qGm qQ8 zAe qV0 qJq qF3 qQh qKv qQ7 qMd qU9 qQc qMa qWy qRl qQd qKu zEw qMb qMc qGt qGu qVs qJx qJz qJy qGv qPn qPp qPo zAy qZf qZg qPl qGw qV2 qV5 qV3 qV4 qPt qJ6 zE3 zAb zAc qQ2 qQ3 qQ4 qQ5 qQ6 qM1 qG3 zAd qVz zAx qPh zKx zE1 zHs zE0 zE2 qZ5 qVd zE5 qV9 zEv qU6 qU5 qU4 zFr qMj qZd qLb qUc qGf qZb qK9 qPg qD4 qZc qLa qLf qLe qLd qLc qNu sZ yZ qTq qTr qAb oN lX mE jZ gK fL iC iD iE jN gS cC gP eC aX mA qU1 aY fR dD aK gN gM mB lZ eB eF eD dZ aW aV aZ aU fG fH fJ bF bG bH jM qWh zHn zAz qN6 qJb bJ bC aL aT aJ mK kC zAa qZ9 qVx qZ8 zEx qVc qZ3 qQg zEy qZ4 qP7 qGb qP5 qDx qKo qKp qP6 qKn qKl qP9 qKq qU3 qZw qQa qKm qQb qKr qU2 qP8 qKk qGa qT3 qT4 qT6 qT8 qJs qUa qJt qJu qF4 qPf qF5 qFt qDd qH9 qT5 qUy qP3 qUx qP4 qZv qUw qZ1 qQf qVb qZ2 qKi qP2 qKj qZu qUv qNz qFp qDb qHz qHw qFo qHu qFm qH0 qH1 qC6 yX qC5 qC4 xV qCc qCd qC7 qHv qC8 qCb qCa qB8 qFn qCe qM qB9 qC9 qH3 qH2 qPb qJp qJm qT2 qJn qJo qU7 qF7 qJ3 qDg qFw qZz qQe qVa qZ0 qKg qP1 qKh qZt qUu qPz qP0 qJe qDh qJc qCg qFz qF0 qJd qFy qFv qJf qF1 qN9 qT0 qJg qFx qN8 qN7 qRj qM4 qK0 qGo qD7 qQo qQ0 qVy qL9 qQ1 qGq qDa yY qK4 zHt qGr
 qUd qPj zDa qZr qUt qPx qZm qZo qZn qZq zAo zAi qWb qPy qZp zEp zEq qNr zAf qH4 qFr qPi zAn zAp qRb zAh zAj qWa qRd qMr qYz qTg qY0 qMu ltT ltF leT leF eqT eqF iG qNf qHp qNs
attribute [push_cast] zLe bb4 zLd zLc zLb zLa zK9 zK8 zK7 zF0 zFp zFo zFn zFm zFl zFk zFj zFi zFh zFg zFf zFe zFd zFc zFb zE8 zE7 it3 zKu zKt zKs zKr kt3 qSl zKq zKp kt4 zKo kt5 zKn zKm zKl zEi qG9 qX4 kt9 zKk zKi zDz zDy zDx zDw zDv zDu zDt zDs zDr zDq zDp zDo zDn zDm zDl zDk zDj zDi zDh zKf zGq zGp zKe zKd zKc zKb zDb zH1 zKa zJ9 st9 zJ8 zJ7 zHm ui3 ui5 zJ6 zJ5 zJ4 ui9 zJ3 zJ0 qG6 pZ zJz zJy zJx zJw qXf qXe zJv zJu zJt zJs zJr zJq zJp zA8 zJo
attribute [push_cast] zGw yF zBt yG zCs yL zB6 zEl zEm zEn zEo Option.getD_some Option.map_some Option.map_none Nat.zero_add gS eC eB dZ eD fG fJ fH List.map_cons List.map_nil implies_true and_self true_and and_true true_implies false_implies Int.toNat_natCast Bool.or_true Bool.or_false Bool.and_true Bool.and_false
end Go.Proofs.Ytmgilahhnbopmaa
