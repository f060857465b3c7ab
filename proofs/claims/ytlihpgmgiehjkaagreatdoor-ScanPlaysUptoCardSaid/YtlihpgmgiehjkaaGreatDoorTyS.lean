/-
  Facts of the types, the functions' names.
-/
import Derived.Test.YtlihpgmgiehjkaaGreatDoorGc
import Derived.Test.YtlihpgmgiehjkaaGreatDoorProg
namespace Go.Proofs.YtlihpgmgiehjkaaGreatDoor
open Go Go.Eng
theorem mixed:Tryz.prog.follows .mixedOrders=true:=by kernel_rfl
theorem zPw:dN Tryz.prog 158=true:=by kernel_rfl
theorem zPv:dN Tryz.prog 159=true:=by kernel_rfl
theorem zQ4:dN Tryz.prog 52=true:=by kernel_rfl
theorem zQ3:dN Tryz.prog 54=true:=by kernel_rfl
theorem zTo:dN Tryz.prog 64=true:=by kernel_rfl
theorem zTn:dN Tryz.prog 68=true:=by kernel_rfl
theorem zTm:dN Tryz.prog 76=true:=by kernel_rfl
theorem zTl:dN Tryz.prog 81=true:=by kernel_rfl
theorem zTk:dN Tryz.prog 83=true:=by kernel_rfl
theorem zTj:dN Tryz.prog 85=true:=by kernel_rfl
theorem zTi:dN Tryz.prog 97=true:=by kernel_rfl
theorem zDk:qN1 Tryz.prog 9 127=true:=by kernel_rfl
theorem zC5:eT Tryz.prog 126 0=some 0:=by kernel_rfl
theorem zC4:eT Tryz.prog 126 1=some 1:=by kernel_rfl
theorem zC3:eT Tryz.prog 158 0=some 0:=by kernel_rfl
theorem zC2:eT Tryz.prog 158 1=some 1:=by kernel_rfl
theorem zLe:eT Tryz.prog 31 0=some 0:=by kernel_rfl
theorem lV:eT Tryz.prog 31 1=some 1:=by kernel_rfl
theorem xA:eT Tryz.prog 31 2=some 2:=by kernel_rfl
theorem qFl:eT Tryz.prog 31 3=some 3:=by kernel_rfl
theorem qUi:eT Tryz.prog 52 0=some 0:=by kernel_rfl
theorem zLd:eT Tryz.prog 52 1=some 1:=by kernel_rfl
theorem zLc:eT Tryz.prog 54 0=some 0:=by kernel_rfl
theorem qUh:eT Tryz.prog 54 1=some 1:=by kernel_rfl
theorem zLb:eT Tryz.prog 64 0=some 0:=by kernel_rfl
theorem zLa:eT Tryz.prog 64 1=some 1:=by kernel_rfl
theorem zK9:eT Tryz.prog 64 2=some 2:=by kernel_rfl
theorem zK8:eT Tryz.prog 64 3=some 3:=by kernel_rfl
theorem zK7:eT Tryz.prog 64 4=some 4:=by kernel_rfl
theorem zK6:eT Tryz.prog 64 5=some 5:=by kernel_rfl
theorem zK5:eT Tryz.prog 68 0=some 0:=by kernel_rfl
theorem zK4:eT Tryz.prog 68 1=some 1:=by kernel_rfl
theorem zK3:eT Tryz.prog 68 2=some 2:=by kernel_rfl
theorem zK2:eT Tryz.prog 68 3=some 3:=by kernel_rfl
theorem zK1:eT Tryz.prog 68 4=some 4:=by kernel_rfl
theorem zK0:eT Tryz.prog 68 5=some 5:=by kernel_rfl
theorem zKz:eT Tryz.prog 76 0=some 0:=by kernel_rfl
theorem zKy:eT Tryz.prog 76 1=some 1:=by kernel_rfl
theorem zKx:eT Tryz.prog 76 2=some 2:=by kernel_rfl
theorem zKw:eT Tryz.prog 76 3=some 3:=by kernel_rfl
theorem zKv:eT Tryz.prog 76 4=some 4:=by kernel_rfl
theorem zKu:eT Tryz.prog 76 5=some 5:=by kernel_rfl
theorem zKt:eT Tryz.prog 76 6=some 6:=by kernel_rfl
theorem zKs:eT Tryz.prog 81 0=some 0:=by kernel_rfl
theorem zKr:eT Tryz.prog 81 1=some 1:=by kernel_rfl
theorem zKq:eT Tryz.prog 81 2=some 2:=by kernel_rfl
theorem zKp:eT Tryz.prog 81 3=some 3:=by kernel_rfl
theorem zKo:eT Tryz.prog 81 4=some 4:=by kernel_rfl
theorem zKn:eT Tryz.prog 81 5=some 5:=by kernel_rfl
theorem zKm:eT Tryz.prog 83 0=some 0:=by kernel_rfl
theorem zKl:eT Tryz.prog 83 1=some 1:=by kernel_rfl
theorem zKk:eT Tryz.prog 83 2=some 2:=by kernel_rfl
theorem zKj:eT Tryz.prog 97 0=some 0:=by kernel_rfl
theorem zKi:eT Tryz.prog 97 1=some 1:=by kernel_rfl
theorem zKh:eT Tryz.prog 97 2=some 2:=by kernel_rfl
theorem zKg:eT Tryz.prog 97 3=some 3:=by kernel_rfl
theorem zKf:eT Tryz.prog 97 4=some 4:=by kernel_rfl
theorem zKe:eT Tryz.prog 97 5=some 5:=by kernel_rfl
theorem zKb:xB Tryz.prog 52 0=some (0,none):=by kernel_rfl
theorem zKa:xB Tryz.prog 97 0=some (0,none):=by kernel_rfl
theorem zJ9:xB Tryz.prog 97 5=some (5,none):=by kernel_rfl
theorem zPr:qPc Tryz.prog 119=some .u64:=by kernel_rfl
theorem zPq:qPc Tryz.prog 140=some .u32:=by kernel_rfl
theorem zSt:qPc Tryz.prog 21=some .i32:=by kernel_rfl
theorem it3:qPc Tryz.prog 3=some .i64:=by kernel_rfl
theorem it5:qPc Tryz.prog 5=some .u8:=by kernel_rfl
theorem zSs:qPc Tryz.prog 98=some .u64:=by kernel_rfl
theorem zPo:cE Tryz.prog 158=some (some 2):=by kernel_rfl
theorem zPn:cE Tryz.prog 159=some (some 32):=by kernel_rfl
theorem zSr:cE Tryz.prog 23=some none:=by kernel_rfl
theorem kt3:cE Tryz.prog 3=some none:=by kernel_rfl
theorem zSq:cE Tryz.prog 31=some (some 4):=by kernel_rfl
theorem qUa:cE Tryz.prog 32=some none:=by kernel_rfl
theorem zSp:cE Tryz.prog 33=some none:=by kernel_rfl
theorem kt4:cE Tryz.prog 4=some none:=by kernel_rfl
theorem kt5:cE Tryz.prog 5=some none:=by kernel_rfl
theorem zNj:cE Tryz.prog 52=some (some 2):=by kernel_rfl
theorem zQh:cE Tryz.prog 54=some (some 3):=by kernel_rfl
theorem zSo:cE Tryz.prog 58=some none:=by kernel_rfl
theorem zSn:cE Tryz.prog 61=some none:=by kernel_rfl
theorem zSm:cE Tryz.prog 62=some none:=by kernel_rfl
theorem zSl:cE Tryz.prog 65=some none:=by kernel_rfl
theorem zSk:cE Tryz.prog 66=some none:=by kernel_rfl
theorem zSj:cE Tryz.prog 76=some (some 7):=by kernel_rfl
theorem zSi:cE Tryz.prog 78=some none:=by kernel_rfl
theorem zSh:cE Tryz.prog 79=some none:=by kernel_rfl
theorem zSg:cE Tryz.prog 81=some (some 6):=by kernel_rfl
theorem zSf:cE Tryz.prog 83=some (some 4):=by kernel_rfl
theorem kt9:cE Tryz.prog 9=some none:=by kernel_rfl
theorem zSe:cE Tryz.prog 97=some (some 6):=by kernel_rfl
theorem zR4:qHg Tryz.prog 23=true:=by kernel_rfl
theorem zBh:eP Tryz.prog 158 0=some (0,1):=by kernel_rfl
theorem zBg:eP Tryz.prog 158 1=some (1,1):=by kernel_rfl
theorem zBf:eP Tryz.prog 159 0=some (0,2):=by kernel_rfl
theorem zBe:eP Tryz.prog 159 1=some (2,2):=by kernel_rfl
theorem zBd:eP Tryz.prog 159 2=some (4,2):=by kernel_rfl
theorem zBc:eP Tryz.prog 159 3=some (6,2):=by kernel_rfl
theorem zBb:eP Tryz.prog 159 4=some (8,2):=by kernel_rfl
theorem zHw:eP Tryz.prog 52 0=some (0,1):=by kernel_rfl
theorem zHv:eP Tryz.prog 52 1=some (1,1):=by kernel_rfl
theorem zHu:eP Tryz.prog 54 0=some (0,1):=by kernel_rfl
theorem zHt:eP Tryz.prog 54 1=some (1,2):=by kernel_rfl
theorem zHs:eP Tryz.prog 64 0=some (0,1):=by kernel_rfl
theorem zHr:eP Tryz.prog 64 1=some (1,1):=by kernel_rfl
theorem zHq:eP Tryz.prog 64 4=some (4,1):=by kernel_rfl
theorem zHp:eP Tryz.prog 68 4=some (4,1):=by kernel_rfl
theorem zHo:eP Tryz.prog 76 0=some (0,1):=by kernel_rfl
theorem zHn:eP Tryz.prog 76 1=some (1,1):=by kernel_rfl
theorem zHm:eP Tryz.prog 81 0=some (0,1):=by kernel_rfl
theorem zHl:eP Tryz.prog 81 1=some (1,1):=by kernel_rfl
theorem zHk:eP Tryz.prog 81 2=some (2,1):=by kernel_rfl
theorem zHj:eP Tryz.prog 81 3=some (3,1):=by kernel_rfl
theorem zHi:eP Tryz.prog 81 4=some (4,1):=by kernel_rfl
theorem zHh:eP Tryz.prog 83 0=some (0,1):=by kernel_rfl
theorem zHg:eP Tryz.prog 83 1=some (1,1):=by kernel_rfl
theorem zHf:eP Tryz.prog 83 2=some (2,2):=by kernel_rfl
theorem zHe:eP Tryz.prog 85 0=some (0,1):=by kernel_rfl
theorem zHd:eP Tryz.prog 85 1=some (1,1):=by kernel_rfl
theorem zHc:eP Tryz.prog 97 0=some (0,1):=by kernel_rfl
theorem zPi:qJ Tryz.prog 127=some (5,1,1,#[.int .u8 0]):=by kernel_rfl
theorem zR1:qJ Tryz.prog 28=some (83,4,48,#[.string ByteArray.empty,.int .i64 0,.int .i64 0,.string ByteArray.empty]):=by kernel_rfl
theorem zMr:qJ Tryz.prog 32=some (54,3,40,#[.string ByteArray.empty,.int .i64 0,.string ByteArray.empty]):=by kernel_rfl
theorem zMq:qJ Tryz.prog 45=some (32,1,24,#[.slice none 0 0]):=by kernel_rfl
theorem zR0:qJ Tryz.prog 58=some (9,1,16,#[.string ByteArray.empty]):=by kernel_rfl
theorem zRz:qJ Tryz.prog 65=some (76,7,72,#[.string ByteArray.empty,.bool false,.string ByteArray.empty,.string ByteArray.empty,.bool false,.bool false,.int .i64 0]):=by kernel_rfl
theorem zPh:vY Tryz.prog 127=false:=by kernel_rfl
theorem st9:vY Tryz.prog 9=true:=by kernel_rfl
theorem zPf:qTd Tryz.prog 156=some (256,1):=by kernel_rfl
theorem zPe:qTd Tryz.prog 159=some (16,2):=by kernel_rfl
theorem zPd:(Tryz.prog.underlying 119).isSome=true:=by kernel_rfl
theorem zPc:(Tryz.prog.underlying 127).isSome=true:=by kernel_rfl
theorem zPb:(Tryz.prog.underlying 140).isSome=true:=by kernel_rfl
theorem ui3:(Tryz.prog.underlying 3).isSome=true:=by kernel_rfl
theorem ui5:(Tryz.prog.underlying 5).isSome=true:=by kernel_rfl
theorem ui9:(Tryz.prog.underlying 9).isSome=true:=by kernel_rfl
theorem zRx:(Tryz.prog.underlying 98).isSome=true:=by kernel_rfl
theorem zPa:cG Tryz.prog 127=some (5,1):=by kernel_rfl
theorem zRu:cG Tryz.prog 22=some (31,4):=by kernel_rfl
theorem zRt:cG Tryz.prog 28=some (83,4):=by kernel_rfl
theorem qTc:cG Tryz.prog 32=some (54,3):=by kernel_rfl
theorem qHf:cG Tryz.prog 45=some (32,1):=by kernel_rfl
theorem zRs:cG Tryz.prog 58=some (9,1):=by kernel_rfl
theorem zRr:cG Tryz.prog 65=some (76,7):=by kernel_rfl
theorem zRq:cG Tryz.prog 66=some (126,2):=by kernel_rfl
theorem zN9:fE Tryz.prog 158=some #[.int .u8 0,.int .u8 0]:=by kernel_rfl
theorem zN8:fE Tryz.prog 159=some #[.int .u8 0,.int .u8 0,.int .u8 0,.int .u8 0,.int .u8 0,.int .u8 0,.int .u8 0,.int .u8 0,.int .u8 0,.int .u8 0,.int .u8 0,.int .u8 0,.int .u8 0,.int .u8 0,.int .u8 0,.int .u8 0,.int .u8 0,.int .u8 0,.int .u8 0,.int .u8 0,.int .u8 0,.int .u8 0,.int .u8 0,.int .u8 0,.int .u8 0,.int .u8 0,.int .u8 0,.int .u8 0,.int .u8 0,.int .u8 0,.int .u8 0,.int .u8 0]:=by kernel_rfl
theorem zRo:fE Tryz.prog 23=some #[.pointer none]:=by kernel_rfl
theorem zt3:fE Tryz.prog 3=some #[.int .i64 0]:=by kernel_rfl
theorem zRn:fE Tryz.prog 31=some #[.int .i64 0,.string ByteArray.empty,.string ByteArray.empty,.int .i64 0]:=by kernel_rfl
theorem zRm:fE Tryz.prog 32=some #[.slice none 0 0]:=by kernel_rfl
theorem zRl:fE Tryz.prog 33=some #[.int .i64 0]:=by kernel_rfl
theorem zRk:fE Tryz.prog 52=some #[.int .i64 0,.string ByteArray.empty]:=by kernel_rfl
theorem zRj:fE Tryz.prog 54=some #[.string ByteArray.empty,.int .i64 0,.string ByteArray.empty]:=by kernel_rfl
theorem zRi:fE Tryz.prog 58=some #[.slice none 0 0]:=by kernel_rfl
theorem zRh:fE Tryz.prog 61=some #[.map none]:=by kernel_rfl
theorem zRg:fE Tryz.prog 64=some #[.map none,.map none,.int .i64 0,.int .i64 0,.int .i64 0,.bool false]:=by kernel_rfl
theorem zRf:fE Tryz.prog 68=some #[.slice none 0 0,.slice none 0 0,.int .i64 0,.int .i64 0,.int .i64 0,.bool false]:=by kernel_rfl
theorem zF4:fE Tryz.prog 76=some #[.string ByteArray.empty,.bool false,.string ByteArray.empty,.string ByteArray.empty,.bool false,.bool false,.int .i64 0]:=by kernel_rfl
theorem zRe:fE Tryz.prog 79=some #[.map none]:=by kernel_rfl
theorem zRd:fE Tryz.prog 81=some #[.pointer none,.string ByteArray.empty,.map none,.map none,.map none,.int .i64 0]:=by kernel_rfl
theorem zRc:fE Tryz.prog 83=some #[.string ByteArray.empty,.int .i64 0,.int .i64 0,.string ByteArray.empty]:=by kernel_rfl
theorem zRb:fE Tryz.prog 85=some #[.string ByteArray.empty,.int .i64 0]:=by kernel_rfl
theorem zt9:fE Tryz.prog 9=some #[.string ByteArray.empty]:=by kernel_rfl
theorem zRa:fE Tryz.prog 97=some #[.bool false,.string ByteArray.empty,.string ByteArray.empty,.bool false,.bool false,.int .i64 0]:=by kernel_rfl
theorem cl5:aK Tryz.prog 5=true:=by kernel_rfl
theorem cl6:aK Tryz.prog 6=true:=by kernel_rfl
theorem cl7:aK Tryz.prog 7=true:=by kernel_rfl
theorem cl8:aK Tryz.prog 8=true:=by kernel_rfl
theorem cl9:aK Tryz.prog 9=true:=by kernel_rfl
theorem zQ1:aK Tryz.prog 10=true:=by kernel_rfl
theorem zN1:aK Tryz.prog 11=true:=by kernel_rfl
theorem zN0:aK Tryz.prog 12=true:=by kernel_rfl
theorem zU1:aK Tryz.prog 13=true:=by kernel_rfl
theorem zU0:aK Tryz.prog 14=true:=by kernel_rfl
theorem zTc:aK Tryz.prog 15=true:=by kernel_rfl
theorem zUz:aK Tryz.prog 16=true:=by kernel_rfl
theorem zUy:aK Tryz.prog 23=true:=by kernel_rfl
theorem zUx:aK Tryz.prog 24=true:=by kernel_rfl
theorem zTb:aK Tryz.prog 26=true:=by kernel_rfl
theorem zQ0:aK Tryz.prog 27=true:=by kernel_rfl
theorem zTa:aK Tryz.prog 28=true:=by kernel_rfl
theorem zUw:aK Tryz.prog 29=true:=by kernel_rfl
theorem zUv:aK Tryz.prog 30=true:=by kernel_rfl
theorem zUu:aK Tryz.prog 31=true:=by kernel_rfl
theorem zUt:aK Tryz.prog 32=true:=by kernel_rfl
theorem zUs:aK Tryz.prog 33=true:=by kernel_rfl
theorem zUr:aK Tryz.prog 34=true:=by kernel_rfl
theorem zUq:aK Tryz.prog 35=true:=by kernel_rfl
theorem zUp:aK Tryz.prog 36=true:=by kernel_rfl
theorem zUo:aK Tryz.prog 37=true:=by kernel_rfl
theorem zUn:aK Tryz.prog 38=true:=by kernel_rfl
theorem zUm:aK Tryz.prog 39=true:=by kernel_rfl
theorem zNz:aK Tryz.prog 40=true:=by kernel_rfl
theorem vM:aK Tryz.prog 41=true:=by kernel_rfl
theorem zUl:aK Tryz.prog 42=true:=by kernel_rfl
theorem zNy:aK Tryz.prog 43=true:=by kernel_rfl
theorem zUk:aK Tryz.prog 44=true:=by kernel_rfl
theorem zS9:aK Tryz.prog 45=true:=by kernel_rfl
theorem zS8:aK Tryz.prog 46=true:=by kernel_rfl
theorem zS7:aK Tryz.prog 47=true:=by kernel_rfl
theorem zUj:aK Tryz.prog 48=true:=by kernel_rfl
theorem zUi:aK Tryz.prog 49=true:=by kernel_rfl
theorem zNx:aK Tryz.prog 51=true:=by kernel_rfl
theorem zUh:aK Tryz.prog 55=true:=by kernel_rfl
theorem zUg:aK Tryz.prog 56=true:=by kernel_rfl
theorem zFv:aK Tryz.prog 57=true:=by kernel_rfl
theorem zL1:aK Tryz.prog 58=true:=by kernel_rfl
theorem zS6:aK Tryz.prog 59=true:=by kernel_rfl
theorem zUf:aK Tryz.prog 60=true:=by kernel_rfl
theorem zFu:aK Tryz.prog 61=true:=by kernel_rfl
theorem zL0:aK Tryz.prog 62=true:=by kernel_rfl
theorem zFt:aK Tryz.prog 63=true:=by kernel_rfl
theorem zNw:aK Tryz.prog 64=true:=by kernel_rfl
theorem zFs:aK Tryz.prog 65=true:=by kernel_rfl
theorem zQz:aK Tryz.prog 66=true:=by kernel_rfl
theorem zLz:aK Tryz.prog 67=true:=by kernel_rfl
theorem zFr:aK Tryz.prog 68=true:=by kernel_rfl
theorem qYo:aK Tryz.prog 69=true:=by kernel_rfl
theorem zQy:aK Tryz.prog 70=true:=by kernel_rfl
theorem zLy:aK Tryz.prog 71=true:=by kernel_rfl
theorem zUe:aK Tryz.prog 72=true:=by kernel_rfl
theorem zS5:aK Tryz.prog 73=true:=by kernel_rfl
theorem zFq:aK Tryz.prog 74=true:=by kernel_rfl
theorem zS4:aK Tryz.prog 75=true:=by kernel_rfl
theorem zS3:aK Tryz.prog 76=true:=by kernel_rfl
theorem zUd:aK Tryz.prog 77=true:=by kernel_rfl
theorem zS2:aK Tryz.prog 78=true:=by kernel_rfl
theorem zS1:aK Tryz.prog 79=true:=by kernel_rfl
theorem zQx:aK Tryz.prog 80=true:=by kernel_rfl
theorem zUc:aK Tryz.prog 81=true:=by kernel_rfl
theorem zUb:aK Tryz.prog 82=true:=by kernel_rfl
theorem zUa:aK Tryz.prog 83=true:=by kernel_rfl
theorem zQw:aK Tryz.prog 84=true:=by kernel_rfl
theorem zT9:aK Tryz.prog 85=true:=by kernel_rfl
theorem zQv:aK Tryz.prog 88=true:=by kernel_rfl
theorem zT8:aK Tryz.prog 92=true:=by kernel_rfl
theorem zT7:aK Tryz.prog 93=true:=by kernel_rfl
theorem zQu:aK Tryz.prog 96=true:=by kernel_rfl
theorem zT6:aK Tryz.prog 97=true:=by kernel_rfl
theorem zT5:aK Tryz.prog 98=true:=by kernel_rfl
theorem zTg:aK Tryz.prog 103=true:=by kernel_rfl
theorem zTf:aK Tryz.prog 104=true:=by kernel_rfl
theorem zPu:aK Tryz.prog 116=true:=by kernel_rfl
theorem zTe:aK Tryz.prog 118=true:=by kernel_rfl
theorem zL2:aK Tryz.prog 120=true:=by kernel_rfl
theorem zTd:aK Tryz.prog 131=true:=by kernel_rfl
attribute [push_cast] qB1 qEc qAt qH0 qHz qEb qCi qCj qEi qAy qA2 vN vB uN uU uS uR vA qAi uM nA uZ uT uV uW uX uY uQ uP tN tL tF tG tH tJ tK qZ qU rB rA qY qX qW qV rC qAw qAv tU tX tT oP oN oM kG kH qT qAc qAb mZ oL xW tZ xX xV xU xY uA qHl yR qHk qTz zBi qHn qDc uB qDd qDb qDa qC8 qTx uC qHo qHm qC7 qDf qTy qDe xZ qC9 qH3 qEe qEg qAu qEf qUl qH4 qUk qH1 qEd qH2 qUj yX uD qAa zF vL vK qT2 qHt qDi qHu qDr qAn qAm qHw qAj qAl qDs qHx vD qAo qDt vC qAk qTb qHj qTa qHi qCe
attribute [push_cast] List.take_succ_cons List.take_zero List.drop_succ_cons List.drop_zero true_and and_true Option.isSome_some List.getElem?_cons_zero List.getElem?_cons_succ List.length_cons List.length_nil cond_true cond_false Int.toNat_natCast Nat.mul_one Nat.add_zero Nat.zero_add Addr.add_lit bne_self_eq_false beq_self_eq_true Bool.not_true Bool.not_false List.size_toArray Array.getD_eq_getD_getElem? List.getElem?_toArray Option.getD_some decide_true decide_false eq_self Bool.true_beq Bool.false_beq List.getD_cons_zero List.getD_cons_succ List.map_cons List.map_nil List.set_cons_zero List.set_cons_succ List.replicate_zero List.toList_toArray List.all_toArray List.all_cons List.all_nil Bool.and_self Bool.and_true Bool.true_and Bool.and_false Bool.false_and List.length_map List.length_append List.length_replicate List.length_set List.cons_append List.nil_append qSu Option.isSome_some Option.isSome_none beq_true beq_false Bool.not_false Option.map_some Bool.true_or Bool.false_or Bool.or_true Bool.or_false Bool.false_xor Bool.true_xor and_self beq_self_eq_true qNr List.flatMap_cons List.flatMap_nil List.append_nil
attribute [push_cast] zB1 zS zM zX zU zCs qRs qL5 qXh qXg qRr zJe qQ2 qWi qWh qWg qWj qWk qWf zB4 qQ3 qMx qMy zJs qRv qGr qRt qD3 qMb qMc qRu qMa qL7 qRw qL6 qMg qXl qMf qGq qL8 qXj qXm qMe qXk qXi qRy qXr qXo qG1 qNg qNf qNh qNi qXp qXq qM6 qM7 qM5 qM8 qNb qNd qNc qNe zCt qMt qR2 qMv qMu zA7 qR9 qM9 qQu qRz zCj gC qHy oQ qQm qK2 qXt qXu qXv qNa qXw qR3 qMw qR4 qR5 qR6 qMz qR8 qM1 qR7 qM0 qMr qGv qGw qM2 qM3 qR1 qMq qMs qGt qGu qGx qGy qSi zC0 qX0 qKt qGj qRq qL4 qSh qNn qXb qRl qNk qYr qSz qRm qL3 zJw qNl qNm qG5 qG6 qXs qK6 qK8 qK7 qG7 qQv qQx qQw zDp zBv zBw qQt qG8 qX2 qX5 qX3 qX4 qQ1 qLj zJ4 zCx zCy qSc qSd qSe qSf qSg qN3 qHb zCz qXz zDo qQq zSv zJ1 zPs zJ0 zJ2 zCr qXf zKc qX6 zJt qW5 qW3 qW2 zSy zLi zBr qMk qV6 qGs zBo qMi qQp qD4 zBp qMj qMp qMo qMm qMl qPr lK pH qVf qVg pK jB gU fC dV eV dS fW fX fY iS qLr vF eZ wU lP fA qWz lQ dU qAq jN eY eX fB eW wT qDw wV wS lN lM lR lL qCs qCt qCu oF oG oH iR qYh zPg zDq qP9 qKh oK lX jQ lJ jH qU6 qPp zCw zCv qXx zCu zJx qXe zCp qRp zJy zCq qRg qGp qRe qDx qLw qLx qRf qLv qLt qRi qLy qW1 zCh qRj qLu qRk qLz qW0 qRh qLs qGo qVz qV0 qV2 qV4 qKz qV5 qK0 qK1 qGk qQn qGl qF9 qCy qKd qV1 qWw qRc qWv qRd zCg qWu zCn qRo qXd zCo qLo qRb qLp zCf qWt qPw qF6 qCr qJ1 qJy qF5 qJw qF2 qJ2 qJ3 qCm wD qCl qCk vS qBd qBe qCn qJx qCo qBc qBb qA9 qF4 qBf wC qBa qCp qJ5 qJ4 qQj qKs qKo qVv qKp qKq qW7 qGn qLd qC4 qGc zCl qRn qXc zCm qLm qRa qLn zCe qWs qQ8 qQ9 qKk qC5 qKi qBg qGf qGg qKj qGe qGb qKl qGh qQc qVr qKm qGd qQb qQa qSx qN4 qL9 qG0 qD8 qRx qSa qXy qNj qSb qG2 qCq wE qMd zPt qG3
 qV8 qQs zGr zCd qWq qQ6 zB8 zCa zB9 zCc zDf zC7 qYa qQ7 zCb zJq zJr qPk zC1 qJ6 qF8 qQr zDe zDg qSj zC6 zC8 qX9 qSs qNx zAx qU2 zAy qN2 ltT ltF leT leF eqT eqF nW qEq qJh qPm
attribute [push_cast] zPw zPv zQ4 zQ3 zTo zTn zTm zTl zTk zTj zTi zDk zC5 zC4 zC3 zC2 zLe lV xA qFl qUi zLd zLc qUh zLb zLa zK9 zK8 zK7 zK6 zK5 zK4 zK3 zK2 zK1 zK0 zKz zKy zKx zKw zKv zKu zKt zKs zKr zKq zKp zKo zKn zKm zKl zKk zKj zKi zKh zKg zKf zKe zKb zKa zJ9 zPr zPq zSt it3 it5 zSs zPo zPn zSr kt3 zSq qUa zSp kt4 kt5 zNj zQh zSo zSn zSm zSl zSk zSj zSi zSh zSg zSf kt9 zSe zR4 zBh zBg zBf zBe zBd zBc zBb zHw zHv zHu zHt zHs zHr zHq zHp zHo zHn zHm zHl zHk zHj zHi zHh zHg zHf zHe zHd zHc zPi zR1 zMr zMq zR0 zRz zPh st9 zPf zPe zPd zPc zPb ui3 ui5 ui9 zRx zPa zRu zRt qTc qHf zRs zRr zRq zN9 zN8 zRo zt3 zRn zRm zRl zRk zRj zRi zRh zRg zRf zF4 zRe zRd zRc zRb zt9 zRa
attribute [push_cast] qB1 qEc qAt qH0 qHz qEb qCi qCj qEi qAy qA2 vN vB uN uU uS uR vA qAi uM nA uZ uT uV uW uX uY uQ uP tN tL tF tG tH tJ tK qZ qU rB rA qY qX qW qV rC qAw qAv tU tX tT oP oN oM kG kH qT qAc qAb mZ oL xW tZ xX xV xU xY uA qHl yR qHk qTz zBi qHn qDc uB qDd qDb qDa qC8 qTx uC qHo qHm qC7 qDf qTy qDe xZ qC9 qH3 qEe qEg qAu qEf qUl qH4 qUk qH1 qEd qH2 qUj yX uD qAa zF vL vK qT2 qHt qDi qHu qDr qAn qAm qHw qAj qAl qDs qHx vD qAo qDt vC qAk qTb qHj qTa qHi qCe
attribute [push_cast] List.take_succ_cons List.take_zero List.drop_succ_cons List.drop_zero true_and and_true Option.isSome_some List.getElem?_cons_zero List.getElem?_cons_succ List.length_cons List.length_nil cond_true cond_false Int.toNat_natCast Nat.mul_one Nat.add_zero Nat.zero_add Addr.add_lit bne_self_eq_false beq_self_eq_true Bool.not_true Bool.not_false List.size_toArray Array.getD_eq_getD_getElem? List.getElem?_toArray Option.getD_some decide_true decide_false eq_self Bool.true_beq Bool.false_beq List.getD_cons_zero List.getD_cons_succ List.map_cons List.map_nil List.set_cons_zero List.set_cons_succ List.replicate_zero List.toList_toArray List.all_toArray List.all_cons List.all_nil Bool.and_self Bool.and_true Bool.true_and Bool.and_false Bool.false_and List.length_map List.length_append List.length_replicate List.length_set List.cons_append List.nil_append qSu Option.isSome_some Option.isSome_none beq_true beq_false Bool.not_false Option.map_some Bool.true_or Bool.false_or Bool.or_true Bool.or_false Bool.false_xor Bool.true_xor and_self beq_self_eq_true qNr List.flatMap_cons List.flatMap_nil List.append_nil
attribute [push_cast] zB1 zS zM zX zU zCs qRs qL5 qXh qXg qRr zJe qQ2 qWi qWh qWg qWj qWk qWf zB4 qQ3 qMx qMy zJs qRv qGr qRt qD3 qMb qMc qRu qMa qL7 qRw qL6 qMg qXl qMf qGq qL8 qXj qXm qMe qXk qXi qRy qXr qXo qG1 qNg qNf qNh qNi qXp qXq qM6 qM7 qM5 qM8 qNb qNd qNc qNe zCt qMt qR2 qMv qMu zA7 qR9 qM9 qQu qRz zCj gC qHy oQ qQm qK2 qXt qXu qXv qNa qXw qR3 qMw qR4 qR5 qR6 qMz qR8 qM1 qR7 qM0 qMr qGv qGw qM2 qM3 qR1 qMq qMs qGt qGu qGx qGy qSi zC0 qX0 qKt qGj qRq qL4 qSh qNn qXb qRl qNk qYr qSz qRm qL3 zJw qNl qNm qG5 qG6 qXs qK6 qK8 qK7 qG7 qQv qQx qQw zDp zBv zBw qQt qG8 qX2 qX5 qX3 qX4 qQ1 qLj zJ4 zCx zCy qSc qSd qSe qSf qSg qN3 qHb zCz qXz zDo qQq zSv zJ1 zPs zJ0 zJ2 zCr qXf zKc qX6 zJt qW5 qW3 qW2 zSy zLi zBr qMk qV6 qGs zBo qMi qQp qD4 zBp qMj qMp qMo qMm qMl qPr lK pH qVf qVg pK jB gU fC dV eV dS fW fX fY iS qLr vF eZ wU lP fA qWz lQ dU qAq jN eY eX fB eW wT qDw wV wS lN lM lR lL qCs qCt qCu oF oG oH iR qYh zPg zDq qP9 qKh oK lX jQ lJ jH qU6 qPp zCw zCv qXx zCu zJx qXe zCp qRp zJy zCq qRg qGp qRe qDx qLw qLx qRf qLv qLt qRi qLy qW1 zCh qRj qLu qRk qLz qW0 qRh qLs qGo qVz qV0 qV2 qV4 qKz qV5 qK0 qK1 qGk qQn qGl qF9 qCy qKd qV1 qWw qRc qWv qRd zCg qWu zCn qRo qXd zCo qLo qRb qLp zCf qWt qPw qF6 qCr qJ1 qJy qF5 qJw qF2 qJ2 qJ3 qCm wD qCl qCk vS qBd qBe qCn qJx qCo qBc qBb qA9 qF4 qBf wC qBa qCp qJ5 qJ4 qQj qKs qKo qVv qKp qKq qW7 qGn qLd qC4 qGc zCl qRn qXc zCm qLm qRa qLn zCe qWs qQ8 qQ9 qKk qC5 qKi qBg qGf qGg qKj qGe qGb qKl qGh qQc qVr qKm qGd qQb qQa qSx qN4 qL9 qG0 qD8 qRx qSa qXy qNj qSb qG2 qCq wE qMd zPt qG3
 qV8 qQs zGr zCd qWq qQ6 zB8 zCa zB9 zCc zDf zC7 qYa qQ7 zCb zJq zJr qPk zC1 qJ6 qF8 qQr zDe zDg qSj zC6 zC8 qX9 qSs qNx zAx qU2 zAy qN2 ltT ltF leT leF eqT eqF nW qEq qJh qPm
attribute [push_cast] zPw zPv zQ4 zQ3 zTo zTn zTm zTl zTk zTj zTi zDk zC5 zC4 zC3 zC2 zLe lV xA qFl qUi zLd zLc qUh zLb zLa zK9 zK8 zK7 zK6 zK5 zK4 zK3 zK2 zK1 zK0 zKz zKy zKx zKw zKv zKu zKt zKs zKr zKq zKp zKo zKn zKm zKl zKk zKj zKi zKh zKg zKf zKe zKb zKa zJ9 zPr zPq zSt it3 it5 zSs zPo zPn zSr kt3 zSq qUa zSp kt4 kt5 zNj zQh zSo zSn zSm zSl zSk zSj zSi zSh zSg zSf kt9 zSe zR4 zBh zBg zBf zBe zBd zBc zBb zHw zHv zHu zHt zHs zHr zHq zHp zHo zHn zHm zHl zHk zHj zHi zHh zHg zHf zHe zHd zHc zPi zR1 zMr zMq zR0 zRz zPh st9 zPf zPe zPd zPc zPb ui3 ui5 ui9 zRx zPa zRu zRt qTc qHf zRs zRr zRq zN9 zN8 zRo zt3 zRn zRm zRl zRk zRj zRi zRh zRg zRf zF4 zRe zRd zRc zRb zt9 zRa
attribute [push_cast] zM9 yF zEm yG zFx yL zFd zJm zJn zJo zJp Option.getD_some Option.map_some Option.map_none Nat.zero_add qLr wU wT wS wV qCs qCu qCt List.map_cons List.map_nil implies_true and_self true_and and_true true_implies false_implies Int.toNat_natCast Bool.or_true Bool.or_false Bool.and_true Bool.and_false
end Go.Proofs.YtlihpgmgiehjkaaGreatDoor
