/-
  Facts of the types, the functions' names.
-/
import Derived.Test.YtdfjeokjmigkaaaGreatGc
import Derived.Test.YtdfjeokjmigkaaaGreatProg
namespace Go.Proofs.YtdfjeokjmigkaaaGreat
open Go Go.Eng
theorem mixed:Tryz.prog.follows .mixedOrders=true:=by kernel_rfl
theorem zYz:qM9 Tryz.prog 65=some 3:=by kernel_rfl
theorem zYy:qM9 Tryz.prog 86=some 3:=by kernel_rfl
theorem bb4:qN4 Tryz.prog 4=true:=by kernel_rfl
theorem zWh:eJ Tryz.prog 112=true:=by kernel_rfl
theorem zWg:eJ Tryz.prog 143=true:=by kernel_rfl
theorem zWf:eJ Tryz.prog 158=true:=by kernel_rfl
theorem zYx:eJ Tryz.prog 31=true:=by kernel_rfl
theorem zYw:eJ Tryz.prog 33=true:=by kernel_rfl
theorem zYv:eJ Tryz.prog 50=true:=by kernel_rfl
theorem zYu:eJ Tryz.prog 53=true:=by kernel_rfl
theorem zYt:eJ Tryz.prog 65=true:=by kernel_rfl
theorem zYs:eJ Tryz.prog 77=true:=by kernel_rfl
theorem zYr:eJ Tryz.prog 86=true:=by kernel_rfl
theorem zYq:eJ Tryz.prog 92=true:=by kernel_rfl
theorem zYp:eJ Tryz.prog 98=true:=by kernel_rfl
theorem zQk:qMw Tryz.prog 9 106=true:=by kernel_rfl
theorem zP7:kC Tryz.prog 117 0=some 0:=by kernel_rfl
theorem zP6:kC Tryz.prog 117 1=some 1:=by kernel_rfl
theorem zP5:kC Tryz.prog 143 0=some 0:=by kernel_rfl
theorem zP4:kC Tryz.prog 143 1=some 1:=by kernel_rfl
theorem zP3:kC Tryz.prog 158 0=some 0:=by kernel_rfl
theorem zP2:kC Tryz.prog 158 1=some 1:=by kernel_rfl
theorem zTv:kC Tryz.prog 31 0=some 0:=by kernel_rfl
theorem zTu:kC Tryz.prog 31 1=some 1:=by kernel_rfl
theorem zTt:kC Tryz.prog 33 0=some 0:=by kernel_rfl
theorem zTs:kC Tryz.prog 33 1=some 1:=by kernel_rfl
theorem zLt:kC Tryz.prog 50 0=some 0:=by kernel_rfl
theorem zTr:kC Tryz.prog 50 1=some 1:=by kernel_rfl
theorem zTq:kC Tryz.prog 53 0=some 0:=by kernel_rfl
theorem zTp:kC Tryz.prog 53 1=some 1:=by kernel_rfl
theorem zTo:kC Tryz.prog 53 2=some 2:=by kernel_rfl
theorem zTn:kC Tryz.prog 53 3=some 3:=by kernel_rfl
theorem zTm:kC Tryz.prog 77 0=some 0:=by kernel_rfl
theorem zTl:kC Tryz.prog 77 1=some 1:=by kernel_rfl
theorem zTk:kC Tryz.prog 77 2=some 2:=by kernel_rfl
theorem zTj:kC Tryz.prog 77 3=some 3:=by kernel_rfl
theorem zTi:kC Tryz.prog 92 0=some 0:=by kernel_rfl
theorem zTh:kC Tryz.prog 92 1=some 1:=by kernel_rfl
theorem zTg:kC Tryz.prog 92 2=some 2:=by kernel_rfl
theorem zTf:kC Tryz.prog 92 3=some 3:=by kernel_rfl
theorem zTe:kC Tryz.prog 92 4=some 4:=by kernel_rfl
theorem zTd:kC Tryz.prog 92 5=some 5:=by kernel_rfl
theorem zTc:kC Tryz.prog 92 6=some 6:=by kernel_rfl
theorem zTa:qGm Tryz.prog 33 0=some (0,none):=by kernel_rfl
theorem zVk:qQq Tryz.prog 103=some .u64:=by kernel_rfl
theorem zVj:qQq Tryz.prog 134=some .u32:=by kernel_rfl
theorem zVi:qQq Tryz.prog 136=some .u64:=by kernel_rfl
theorem it3:qQq Tryz.prog 3=some .i64:=by kernel_rfl
theorem it5:qQq Tryz.prog 5=some .u8:=by kernel_rfl
theorem zVh:cR Tryz.prog 106=some none:=by kernel_rfl
theorem zVg:cR Tryz.prog 112=some (some 2):=by kernel_rfl
theorem zVf:cR Tryz.prog 115=some none:=by kernel_rfl
theorem zVe:cR Tryz.prog 143=some (some 2):=by kernel_rfl
theorem zB0:cR Tryz.prog 156=some none:=by kernel_rfl
theorem qCn:cR Tryz.prog 158=some (some 2):=by kernel_rfl
theorem qP2:cR Tryz.prog 160=some none:=by kernel_rfl
theorem zXq:cR Tryz.prog 22=some none:=by kernel_rfl
theorem zXp:cR Tryz.prog 26=some none:=by kernel_rfl
theorem kt3:cR Tryz.prog 3=some none:=by kernel_rfl
theorem zXo:cR Tryz.prog 31=some (some 2):=by kernel_rfl
theorem zVd:cR Tryz.prog 33=some (some 2):=by kernel_rfl
theorem kt4:cR Tryz.prog 4=some none:=by kernel_rfl
theorem kt5:cR Tryz.prog 5=some none:=by kernel_rfl
theorem zXn:cR Tryz.prog 50=some (some 3):=by kernel_rfl
theorem zXm:cR Tryz.prog 53=some (some 4):=by kernel_rfl
theorem zXl:cR Tryz.prog 59=some none:=by kernel_rfl
theorem zXk:cR Tryz.prog 64=some none:=by kernel_rfl
theorem zXj:cR Tryz.prog 73=some none:=by kernel_rfl
theorem zXi:cR Tryz.prog 77=some (some 4):=by kernel_rfl
theorem zXh:cR Tryz.prog 88=some none:=by kernel_rfl
theorem kt9:cR Tryz.prog 9=some none:=by kernel_rfl
theorem zXg:cR Tryz.prog 92=some (some 7):=by kernel_rfl
theorem zU7:qJx Tryz.prog 115=true:=by kernel_rfl
theorem zNj:fJ Tryz.prog 112 0=some (0,1):=by kernel_rfl
theorem zNi:fJ Tryz.prog 112 1=some (1,1):=by kernel_rfl
theorem zNh:fJ Tryz.prog 143 0=some (0,1):=by kernel_rfl
theorem zNg:fJ Tryz.prog 143 1=some (1,1):=by kernel_rfl
theorem zNf:fJ Tryz.prog 158 0=some (0,1):=by kernel_rfl
theorem zNe:fJ Tryz.prog 158 1=some (1,1):=by kernel_rfl
theorem zSk:fJ Tryz.prog 31 0=some (0,1):=by kernel_rfl
theorem zSj:fJ Tryz.prog 31 1=some (1,1):=by kernel_rfl
theorem zSi:fJ Tryz.prog 33 0=some (0,1):=by kernel_rfl
theorem zSh:fJ Tryz.prog 33 1=some (1,1):=by kernel_rfl
theorem zSg:fJ Tryz.prog 50 0=some (0,1):=by kernel_rfl
theorem zSf:fJ Tryz.prog 50 1=some (1,2):=by kernel_rfl
theorem zSe:fJ Tryz.prog 53 0=some (0,1):=by kernel_rfl
theorem zSd:fJ Tryz.prog 53 1=some (1,1):=by kernel_rfl
theorem zSc:fJ Tryz.prog 53 2=some (2,1):=by kernel_rfl
theorem zSb:fJ Tryz.prog 65 0=some (0,1):=by kernel_rfl
theorem zSa:fJ Tryz.prog 65 1=some (1,1):=by kernel_rfl
theorem zR9:fJ Tryz.prog 65 2=some (2,1):=by kernel_rfl
theorem zR8:fJ Tryz.prog 77 0=some (0,1):=by kernel_rfl
theorem zR7:fJ Tryz.prog 77 1=some (1,1):=by kernel_rfl
theorem zR6:fJ Tryz.prog 77 2=some (2,1):=by kernel_rfl
theorem zR5:fJ Tryz.prog 77 3=some (3,1):=by kernel_rfl
theorem zR4:fJ Tryz.prog 86 0=some (0,1):=by kernel_rfl
theorem zR3:fJ Tryz.prog 86 1=some (1,1):=by kernel_rfl
theorem zR2:fJ Tryz.prog 86 2=some (2,1):=by kernel_rfl
theorem zR1:fJ Tryz.prog 92 0=some (0,1):=by kernel_rfl
theorem zR0:fJ Tryz.prog 92 1=some (1,1):=by kernel_rfl
theorem zRz:fJ Tryz.prog 92 2=some (2,1):=by kernel_rfl
theorem zRy:fJ Tryz.prog 98 0=some (0,1):=by kernel_rfl
theorem zRx:fJ Tryz.prog 98 1=some (1,1):=by kernel_rfl
theorem zRw:fJ Tryz.prog 98 2=some (2,1):=by kernel_rfl
theorem zU4:nW Tryz.prog 106=some (5,1,1,#[.int .u8 0]):=by kernel_rfl
theorem zU3:nW Tryz.prog 108=some (112,2,16,#[.int .i64 0,.int .i64 0]):=by kernel_rfl
theorem zBm:nW Tryz.prog 139=some (143,2,16,#[.int .i64 0,.int .i64 0]):=by kernel_rfl
theorem zRc:nW Tryz.prog 156=some (160,1,2,#[.int .i16 0]):=by kernel_rfl
theorem zU2:nW Tryz.prog 168=some (88,1,24,#[.slice none 0 0]):=by kernel_rfl
theorem zXd:nW Tryz.prog 22=some (50,3,40,#[.string ByteArray.empty,.int .i64 0,.string ByteArray.empty]):=by kernel_rfl
theorem zXc:nW Tryz.prog 26=some (31,2,24,#[.string ByteArray.empty,.int .i64 0]):=by kernel_rfl
theorem zXb:nW Tryz.prog 59=some (9,1,16,#[.string ByteArray.empty]):=by kernel_rfl
theorem zXa:nW Tryz.prog 73=some (77,4,80,#[.bool false,.slice none 0 0,.slice none 0 0,.slice none 0 0]):=by kernel_rfl
theorem zW9:nW Tryz.prog 88=some (3,1,8,#[.int .i64 0]):=by kernel_rfl
theorem zW8:nW Tryz.prog 96=some (98,3,24,#[.int .i64 0,.int .i64 0,.int .i64 0]):=by kernel_rfl
theorem zU0:qB4 Tryz.prog 106=false:=by kernel_rfl
theorem st9:qB4 Tryz.prog 9=true:=by kernel_rfl
theorem zUy:qQr Tryz.prog 112=some (2,1):=by kernel_rfl
theorem zW4:qQr Tryz.prog 98=some (3,1):=by kernel_rfl
theorem zUx:(Tryz.prog.underlying 103).isSome=true:=by kernel_rfl
theorem zUw:(Tryz.prog.underlying 115).isSome=true:=by kernel_rfl
theorem zUv:(Tryz.prog.underlying 134).isSome=true:=by kernel_rfl
theorem zUu:(Tryz.prog.underlying 136).isSome=true:=by kernel_rfl
theorem zUt:(Tryz.prog.underlying 165).isSome=true:=by kernel_rfl
theorem ui3:(Tryz.prog.underlying 3).isSome=true:=by kernel_rfl
theorem ui5:(Tryz.prog.underlying 5).isSome=true:=by kernel_rfl
theorem ui9:(Tryz.prog.underlying 9).isSome=true:=by kernel_rfl
theorem zUr:bU Tryz.prog 106=some (5,1):=by kernel_rfl
theorem zUq:bU Tryz.prog 108=some (112,2):=by kernel_rfl
theorem qN3:bU Tryz.prog 139=some (143,2):=by kernel_rfl
theorem qN2:bU Tryz.prog 156=some (160,1):=by kernel_rfl
theorem zUp:bU Tryz.prog 168=some (88,1):=by kernel_rfl
theorem zUo:bU Tryz.prog 22=some (50,3):=by kernel_rfl
theorem zW3:bU Tryz.prog 26=some (31,2):=by kernel_rfl
theorem qEh:bU Tryz.prog 59=some (9,1):=by kernel_rfl
theorem zW2:bU Tryz.prog 73=some (77,4):=by kernel_rfl
theorem zW1:bU Tryz.prog 88=some (3,1):=by kernel_rfl
theorem zW0:bU Tryz.prog 96=some (98,3):=by kernel_rfl
theorem zUn:gY Tryz.prog 112=some #[.int .i64 0,.int .i64 0]:=by kernel_rfl
theorem zUm:gY Tryz.prog 117=some #[.pointer none,.slice none 0 0]:=by kernel_rfl
theorem zUl:gY Tryz.prog 143=some #[.int .i64 0,.int .i64 0]:=by kernel_rfl
theorem qSn:gY Tryz.prog 158=some #[.int .i64 0,.slice none 0 0]:=by kernel_rfl
theorem zt3:gY Tryz.prog 3=some #[.int .i64 0]:=by kernel_rfl
theorem zWy:gY Tryz.prog 31=some #[.string ByteArray.empty,.int .i64 0]:=by kernel_rfl
theorem zWx:gY Tryz.prog 33=some #[.int .i64 0,.string ByteArray.empty]:=by kernel_rfl
theorem zWw:gY Tryz.prog 50=some #[.string ByteArray.empty,.int .i64 0,.string ByteArray.empty]:=by kernel_rfl
theorem zWv:gY Tryz.prog 53=some #[.slice none 0 0,.slice none 0 0,.slice none 0 0,.slice none 0 0]:=by kernel_rfl
theorem zWu:gY Tryz.prog 59=some #[.slice none 0 0]:=by kernel_rfl
theorem zWt:gY Tryz.prog 64=some #[.map none]:=by kernel_rfl
theorem zWs:gY Tryz.prog 65=some #[.slice none 0 0,.slice none 0 0,.slice none 0 0]:=by kernel_rfl
theorem zWr:gY Tryz.prog 77=some #[.bool false,.slice none 0 0,.slice none 0 0,.slice none 0 0]:=by kernel_rfl
theorem zWq:gY Tryz.prog 86=some #[.string ByteArray.empty,.string ByteArray.empty,.string ByteArray.empty]:=by kernel_rfl
theorem zWp:gY Tryz.prog 92=some #[.slice none 0 0,.slice none 0 0,.slice none 0 0,.int .i64 0,.int .i64 0,.int .i64 0,.slice none 0 0]:=by kernel_rfl
theorem zWo:gY Tryz.prog 98=some #[.int .i64 0,.int .i64 0,.int .i64 0]:=by kernel_rfl
theorem cl9:aE Tryz.prog 9=true:=by kernel_rfl
theorem zWe:aE Tryz.prog 10=true:=by kernel_rfl
theorem zUc:aE Tryz.prog 11=true:=by kernel_rfl
theorem zUb:aE Tryz.prog 12=true:=by kernel_rfl
theorem zYo:aE Tryz.prog 13=true:=by kernel_rfl
theorem zUa:aE Tryz.prog 14=true:=by kernel_rfl
theorem zYn:aE Tryz.prog 15=true:=by kernel_rfl
theorem qGw:aE Tryz.prog 16=true:=by kernel_rfl
theorem zV4:aE Tryz.prog 17=true:=by kernel_rfl
theorem zV3:aE Tryz.prog 18=true:=by kernel_rfl
theorem zV2:aE Tryz.prog 19=true:=by kernel_rfl
theorem zV1:aE Tryz.prog 20=true:=by kernel_rfl
theorem zGm:aE Tryz.prog 22=true:=by kernel_rfl
theorem zL5:aE Tryz.prog 23=true:=by kernel_rfl
theorem qNz:aE Tryz.prog 24=true:=by kernel_rfl
theorem zYm:aE Tryz.prog 25=true:=by kernel_rfl
theorem qNy:aE Tryz.prog 26=true:=by kernel_rfl
theorem zGl:aE Tryz.prog 27=true:=by kernel_rfl
theorem zT9:aE Tryz.prog 28=true:=by kernel_rfl
theorem zYl:aE Tryz.prog 29=true:=by kernel_rfl
theorem zGk:aE Tryz.prog 30=true:=by kernel_rfl
theorem zYk:aE Tryz.prog 31=true:=by kernel_rfl
theorem zYj:aE Tryz.prog 32=true:=by kernel_rfl
theorem zYi:aE Tryz.prog 33=true:=by kernel_rfl
theorem zYh:aE Tryz.prog 34=true:=by kernel_rfl
theorem zYg:aE Tryz.prog 35=true:=by kernel_rfl
theorem qVx:aE Tryz.prog 36=true:=by kernel_rfl
theorem zT8:aE Tryz.prog 37=true:=by kernel_rfl
theorem zYf:aE Tryz.prog 38=true:=by kernel_rfl
theorem zYe:aE Tryz.prog 39=true:=by kernel_rfl
theorem zYd:aE Tryz.prog 40=true:=by kernel_rfl
theorem zYc:aE Tryz.prog 41=true:=by kernel_rfl
theorem zYb:aE Tryz.prog 42=true:=by kernel_rfl
theorem zYa:aE Tryz.prog 43=true:=by kernel_rfl
theorem zX9:aE Tryz.prog 44=true:=by kernel_rfl
theorem zT7:aE Tryz.prog 45=true:=by kernel_rfl
theorem zGj:aE Tryz.prog 46=true:=by kernel_rfl
theorem zV0:aE Tryz.prog 47=true:=by kernel_rfl
theorem zX8:aE Tryz.prog 48=true:=by kernel_rfl
theorem zA0:aE Tryz.prog 49=true:=by kernel_rfl
theorem zGi:aE Tryz.prog 50=true:=by kernel_rfl
theorem zVz:aE Tryz.prog 51=true:=by kernel_rfl
theorem zT6:aE Tryz.prog 52=true:=by kernel_rfl
theorem zX7:aE Tryz.prog 53=true:=by kernel_rfl
theorem zX6:aE Tryz.prog 54=true:=by kernel_rfl
theorem zX5:aE Tryz.prog 55=true:=by kernel_rfl
theorem zT5:aE Tryz.prog 59=true:=by kernel_rfl
theorem zT4:aE Tryz.prog 60=true:=by kernel_rfl
theorem qSg:aE Tryz.prog 61=true:=by kernel_rfl
theorem zGh:aE Tryz.prog 62=true:=by kernel_rfl
theorem zT3:aE Tryz.prog 63=true:=by kernel_rfl
theorem zT2:aE Tryz.prog 64=true:=by kernel_rfl
theorem zVy:aE Tryz.prog 65=true:=by kernel_rfl
theorem zQj:aE Tryz.prog 66=true:=by kernel_rfl
theorem zT1:aE Tryz.prog 67=true:=by kernel_rfl
theorem zX4:aE Tryz.prog 68=true:=by kernel_rfl
theorem zX3:aE Tryz.prog 69=true:=by kernel_rfl
theorem zVx:aE Tryz.prog 70=true:=by kernel_rfl
theorem zQi:aE Tryz.prog 71=true:=by kernel_rfl
theorem zX2:aE Tryz.prog 72=true:=by kernel_rfl
theorem zT0:aE Tryz.prog 73=true:=by kernel_rfl
theorem zVw:aE Tryz.prog 74=true:=by kernel_rfl
theorem zX1:aE Tryz.prog 78=true:=by kernel_rfl
theorem zX0:aE Tryz.prog 79=true:=by kernel_rfl
theorem zXz:aE Tryz.prog 80=true:=by kernel_rfl
theorem zXy:aE Tryz.prog 81=true:=by kernel_rfl
theorem zXx:aE Tryz.prog 82=true:=by kernel_rfl
theorem zXw:aE Tryz.prog 83=true:=by kernel_rfl
theorem zTz:aE Tryz.prog 84=true:=by kernel_rfl
theorem zVv:aE Tryz.prog 89=true:=by kernel_rfl
theorem zXv:aE Tryz.prog 90=true:=by kernel_rfl
theorem zWd:aE Tryz.prog 105=true:=by kernel_rfl
theorem zL6:aE Tryz.prog 106=true:=by kernel_rfl
theorem zWc:aE Tryz.prog 107=true:=by kernel_rfl
theorem zWb:aE Tryz.prog 108=true:=by kernel_rfl
theorem zWa:aE Tryz.prog 109=true:=by kernel_rfl
theorem zV9:aE Tryz.prog 110=true:=by kernel_rfl
theorem zV8:aE Tryz.prog 113=true:=by kernel_rfl
theorem zV7:aE Tryz.prog 126=true:=by kernel_rfl
theorem qVy:aE Tryz.prog 127=true:=by kernel_rfl
theorem zV6:aE Tryz.prog 129=true:=by kernel_rfl
theorem zV5:aE Tryz.prog 132=true:=by kernel_rfl
attribute [push_cast] qMl qCz qAq qGp qGo qCy qB6 qB7 qC5 qAw qA0 vF uN tZ uF uD uC uM qAc tY mF uL uE uG uH uJ uK uB uA tE tD sV sW sX sY sZ qR qL qT qS qQ qP qN qM qU qAu qAt tN tP tL oH oG oF jP jQ qJ xY xX mB oE xM tQ xN xL xK xP tR qFr xS qFq qLj qTy qFt qCg tT qCh qCf qCe qCc qLh tU qFu qFs qCb qCj qLi qCi xR qCd qGs qC1 qC3 qAr qC2 qMo qGt qMn qGq qC0 qGr qMm xU tV xW xV vA uZ qLo qFx qCk qFy qCq qAh qAg qGa qAd qAf qCr qGb uQ qAi qCs uP qAe qKl qFj qKj qFh qB3
attribute [push_cast] List.take_succ_cons List.take_zero List.drop_succ_cons List.drop_zero true_and and_true Option.isSome_some List.getElem?_cons_zero List.getElem?_cons_succ List.length_cons List.length_nil cond_true cond_false Int.toNat_natCast Nat.mul_one Nat.add_zero Nat.zero_add Addr.add_lit bne_self_eq_false beq_self_eq_true Bool.not_true Bool.not_false List.size_toArray Array.getD_eq_getD_getElem? List.getElem?_toArray Option.getD_some decide_true decide_false eq_self Bool.true_beq Bool.false_beq List.getD_cons_zero List.getD_cons_succ List.map_cons List.map_nil List.set_cons_zero List.set_cons_succ List.replicate_zero List.toList_toArray List.all_toArray List.all_cons List.all_nil Bool.and_self Bool.and_true Bool.true_and Bool.and_false Bool.false_and List.length_map List.length_append List.length_replicate List.length_set List.cons_append List.nil_append zGf Option.isSome_some Option.isSome_none beq_true beq_false Bool.not_false Option.map_some Bool.true_or Bool.false_or Bool.or_true Bool.or_false Bool.false_xor Bool.true_xor and_self beq_self_eq_true zAp List.flatMap_cons List.flatMap_nil List.append_nil
attribute [push_cast] zBy zS zM zX zU zPp zFg qY5 zKw zKv zFf zSp zEj zJx zJw zJv zJy zJz zJu zN2 zEk qZw qZx zSu zFj qU0 zFh qR6 qZc qZd zFi qZb qY8 zFk qY7 qZh zK1 qZg qUz qY9 zKz zK2 qZf zK0 zKy zFm zK8 zK5 qVa zAf zAe zAg zAh zK6 zK7 qZ4 qZ5 qZ3 qZ6 qZ9 zAb zAa zAc zPq qZs zFp qZu qZt zM8 zFw qZ7 zD9 zFn zPg iQ lF dQ zDz qX3 zLa zLb zLc qZ8 zLd zFq qZv zFr zFs zFt qZy zFv qZ0 zFu qZz qZq qU5 qU6 qZ1 qZ2 zFo qZp qZr qU3 qU4 qU7 qU8 zF5 zPx zLh qXy qT0 zFe qY4 zF4 zAm zKp zE9 zAj zMe zGx zFa qY2 zSy zAk zAl qVd qVe zK9 qX6 qX8 qX7 qVg zEa zEc zEb zQt zNx zNy zD8 qVh zLi zLl zLj zLk zEi qYe zS6 zPu zPv zFz zF0 zF1 zF2 zF3 zA2 qV3 zPw zLg zQs zD3 zXt zS3 zVl zS2 zS4 zPo zKu zTb zLq zSv zKn zKm zKl zVr zLx zNq qZk zJj qU2 zNo qZi zD2 qR7 zNp qZj qZo qZn qZm qZl zC9 oK tJ zHk zHl tK kP jC gQ fN gG fF iL iM iN kG uS fD gN kU cF jD zKi cG fM jY bG gM gK gP gJ kR mH kV kQ cE cD cH cC oA oB oC dL dM dN kF zL0 zUz zQu zDs qXk dP cJ bH bZ bF xF sD zPt zPs zLe zPr zS0 zKs zPm zFd zS1 zPn zE3 qUw zE1 qR3 qYy qYz zE2 qYx qYv zE5 qY0 zKk zPf zE6 qYw zE7 qY1 zKj zE4 qYu qUv zH7 zH9 zJb zJc qX0 zJe qX1 qX2 qT4 zD0 qT5 qTl qRh qXg zJa zKh zEz zKg zE0 zPd zKf zPk zFc zKr zPl qYs zEy qYt zPc zKe zDf qTd qRb qW7 qW6 qTc qW4 qS9 qW8 qW9 qQ6 qK0 qQ5 qQ4 qJy qNo qNp qQ7 qW5 qQ8 qNn qNm qNk qTb qNq qKz qNl qQ9 qXb qXa zDw qXv qXs zH1 qXt qXu zKo qUe qYc qRk qTr zPi zFb zKq zPj qYq zEx qYr zPb zKd zEv zEw qXn qRl qXl qNs qTu qTv qXm qTt qTq qXo qTw zDv zHx qXp qTs zDu zDt zGw zA5 qZa qU9 zFl zFx zLf zAi zFy qVb qRa qK2 qZe zVp qVc
 zJn zD6 zRq zN9 zKb zEo zN4 zN6 zN5 zN8 zQg zP9 zLw zEp zN7 zSr zSs zCu zPy zD4 zQf zQh zF8 zP8 zQa zLv zGb zAx zMz zHd zM0 zAz ltT ltF leT leF eqT eqF jT zRi qWp zCx
attribute [push_cast] zYz zYy bb4 zWh zWg zWf zYx zYw zYv zYu zYt zYs zYr zYq zYp zQk zP7 zP6 zP5 zP4 zP3 zP2 zTv zTu zTt zTs zLt zTr zTq zTp zTo zTn zTm zTl zTk zTj zTi zTh zTg zTf zTe zTd zTc zTa zVk zVj zVi it3 it5 zVh zVg zVf zVe zB0 qCn qP2 zXq zXp kt3 zXo zVd kt4 kt5 zXn zXm zXl zXk zXj zXi zXh kt9 zXg zU7 zNj zNi zNh zNg zNf zNe zSk zSj zSi zSh zSg zSf zSe zSd zSc zSb zSa zR9 zR8 zR7 zR6 zR5 zR4 zR3 zR2 zR1 zR0 zRz zRy zRx zRw zU4 zU3 zBm zRc zU2 zXd zXc zXb zXa zW9 zW8 zU0 st9 zUy zW4 zUx zUw zUv zUu zUt ui3 ui5 ui9 zUr zUq qN3 qN2 zUp zUo zW3 qEh zW2 zW1 zW0 zUn zUm zUl qSn zt3 zWy zWx zWw zWv zWu zWt zWs zWr zWq zWp zWo
attribute [push_cast] zNk yF zDj yG zGs yL zEm zJ4 zJ5 zJ6 zJ7 Option.getD_some Option.map_some Option.map_none Nat.zero_add uS kU kR kQ kV oA oC oB List.map_cons List.map_nil implies_true and_self true_and and_true true_implies false_implies Int.toNat_natCast Bool.or_true Bool.or_false Bool.and_true Bool.and_false
end Go.Proofs.YtdfjeokjmigkaaaGreat
