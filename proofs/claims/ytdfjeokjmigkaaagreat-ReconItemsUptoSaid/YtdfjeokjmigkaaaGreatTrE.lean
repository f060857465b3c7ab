/-
  The search in a tree: slices.BinarySearchFunc, tree.find, tree.Get.
-/
import Derived.Shelf.SlIter.Nil
import Derived.Shelf.SortM.Plain
import Derived.Shelf.SortM.SortNone
import Derived.Ground.GgzProg
import Derived.Ground.SlgmProg
import Derived.Shelf.SlGeneric
import Derived.Test.YtdfjeokjmigkaaaGreatProg
import Derived.Test.YtdfjeokjmigkaaaGreatApd
import Derived.Test.YtdfjeokjmigkaaaGreatRcD
set_option linter.unusedVariables false
set_option linter.unusedSimpArgs false
section
namespace Go.Proofs.YtdfjeokjmigkaaaGreat
open Go Go.RowKit Go.Maps Go.Sort Go.Shelf Go.Proofs
def Tryz.keysM_ren:Go.Shelf.Ren:=⟨fun|7=>42|10=>58|n=>n,fun|23=>64|26=>9|3=>3|28=>71|0=>0|27=>70|33=>61|4=>4|n=>n,fun|n=>n⟩
theorem Tryz.keysM:Go.Proofs.SlLaysZ.n7 Tryz.prog Tryz.keysM_ren:={
  mixed:=by kernel_rfl
  f7:=⟨Tryz.f42.name,by decide,Tryz.func42.trans (congrArg some (by kernel_rfl))⟩
  f10:=⟨Tryz.f58.name,by decide,Tryz.func58.trans (congrArg some (by kernel_rfl))⟩
  t0:=Tryz.underlying0
  a0:=Tryz.isAgg0
  z0:=Tryz.sizeOf0
  v0:=Tryz.zeroValue0
  t4:=Tryz.underlying4
  a4:=Tryz.isAgg4
  z4:=Tryz.sizeOf4
  v4:=Tryz.zeroValue4
  t23:=Tryz.underlying64
  a23:=Tryz.isAgg64
  z23:=Tryz.sizeOf64
  v23:=Tryz.zeroValue64
  t26:=Tryz.underlying9
  a26:=Tryz.isAgg9
  z26:=Tryz.sizeOf9
  v26:=Tryz.zeroValue9
  t27:=Tryz.underlying70
  a27:=Tryz.isAgg70
  z27:=Tryz.sizeOf70
  v27:=Tryz.zeroValue70
  t28:=Tryz.underlying71
  a28:=Tryz.isAgg71
  z28:=Tryz.sizeOf71
  v28:=Tryz.zeroValue71
  t33:=Tryz.underlying61
  a33:=Tryz.isAgg61
  z33:=Tryz.sizeOf61
  v33:=Tryz.zeroValue61 }
def Tryz.sortedM_ren:Go.Shelf.Ren:=⟨fun|6=>41|8=>56|9=>57|11=>75|13=>77|12=>76|23=>103|24=>104|14=>94|15=>95|16=>96|17=>97|18=>98|19=>99|20=>100|21=>101|22=>102|25=>116|26=>117|27=>118|28=>119|29=>120|30=>121|31=>133|n=>n,fun|26=>9|28=>71|24=>59|0=>0|3=>3|37=>103|48=>134|50=>136|4=>4|40=>128|39=>127|45=>104|5=>5|9=>9|51=>150|55=>154|57=>170|58=>171|33=>61|n=>n,fun|n=>n⟩
theorem Tryz.sortedM:Go.Proofs.SlLaysZ.n6 Tryz.prog Tryz.sortedM_ren:={
  mixed:=by kernel_rfl
  f6:=⟨Tryz.f41.name,by decide,Tryz.func41.trans (congrArg some (by kernel_rfl))⟩
  f8:=⟨Tryz.f56.name,by decide,Tryz.func56.trans (congrArg some (by kernel_rfl))⟩
  f11:=⟨Tryz.f75.name,by decide,Tryz.func75.trans (congrArg some (by kernel_rfl))⟩
  t0:=Tryz.underlying0
  a0:=Tryz.isAgg0
  z0:=Tryz.sizeOf0
  v0:=Tryz.zeroValue0
  t24:=Tryz.underlying59
  a24:=Tryz.isAgg59
  z24:=Tryz.sizeOf59
  v24:=Tryz.zeroValue59
  t26:=Tryz.underlying9
  a26:=Tryz.isAgg9
  z26:=Tryz.sizeOf9
  v26:=Tryz.zeroValue9
  t28:=Tryz.underlying71
  a28:=Tryz.isAgg71
  z28:=Tryz.sizeOf71
  v28:=Tryz.zeroValue71
  i26:=by kernel_rfl }
def Tryz.sortM_ren:Go.Shelf.Ren:=⟨fun|6=>57|8=>77|9=>76|19=>103|20=>104|21=>94|22=>95|23=>96|24=>97|25=>98|26=>99|27=>100|28=>101|29=>102|36=>116|31=>117|32=>118|37=>119|38=>120|39=>121|41=>133|n=>n,fun|27=>59|29=>9|3=>3|32=>103|26=>59|0=>0|44=>134|46=>136|4=>4|36=>128|35=>127|41=>104|5=>5|9=>9|53=>150|57=>154|63=>170|64=>171|n=>n,fun|n=>n⟩
theorem Tryz.sortM:Go.Proofs.SlLaysM.n6 Tryz.prog Tryz.sortM_ren:={
  mixed:=by kernel_rfl
  f6:=⟨Tryz.f57.name,by decide,Tryz.func57.trans (congrArg some (by kernel_rfl))⟩
  f8:=Tryz.func77.trans (congrArg some (by kernel_rfl))
  f9:=⟨Tryz.f76.name,by decide,Tryz.func76.trans (congrArg some (by kernel_rfl))⟩
  f19:=Tryz.func103.trans (congrArg some (by kernel_rfl))
  f20:=Tryz.func104.trans (congrArg some (by kernel_rfl))
  f21:=⟨Tryz.f94.name,by decide,Tryz.func94.trans (congrArg some (by kernel_rfl))⟩
  f22:=⟨Tryz.f95.name,by decide,Tryz.func95.trans (congrArg some (by kernel_rfl))⟩
  f23:=⟨Tryz.f96.name,by decide,Tryz.func96.trans (congrArg some (by kernel_rfl))⟩
  f24:=⟨Tryz.f97.name,by decide,Tryz.func97.trans (congrArg some (by kernel_rfl))⟩
  f25:=⟨Tryz.f98.name,by decide,Tryz.func98.trans (congrArg some (by kernel_rfl))⟩
  f26:=⟨Tryz.f99.name,by decide,Tryz.func99.trans (congrArg some (by kernel_rfl))⟩
  f27:=⟨Tryz.f100.name,by decide,Tryz.func100.trans (congrArg some (by kernel_rfl))⟩
  f28:=⟨Tryz.f101.name,by decide,Tryz.func101.trans (congrArg some (by kernel_rfl))⟩
  f29:=⟨Tryz.f102.name,by decide,Tryz.func102.trans (congrArg some (by kernel_rfl))⟩
  f31:=Tryz.func117.trans (congrArg some (by kernel_rfl))
  f32:=Tryz.func118.trans (congrArg some (by kernel_rfl))
  f36:=⟨Tryz.f116.name,by decide,Tryz.func116.trans (congrArg some (by kernel_rfl))⟩
  f37:=⟨Tryz.f119.name,by decide,Tryz.func119.trans (congrArg some (by kernel_rfl))⟩
  f38:=⟨Tryz.f120.name,by decide,Tryz.func120.trans (congrArg some (by kernel_rfl))⟩
  f39:=⟨Tryz.f121.name,by decide,Tryz.func121.trans (congrArg some (by kernel_rfl))⟩
  f41:=⟨Tryz.f133.name,by decide,Tryz.func133.trans (congrArg some (by kernel_rfl))⟩
  t0:=Tryz.underlying0
  a0:=Tryz.isAgg0
  z0:=Tryz.sizeOf0
  v0:=Tryz.zeroValue0
  t3:=Tryz.underlying3
  a3:=Tryz.isAgg3
  z3:=Tryz.sizeOf3
  v3:=Tryz.zeroValue3
  t4:=Tryz.underlying4
  a4:=Tryz.isAgg4
  z4:=Tryz.sizeOf4
  v4:=Tryz.zeroValue4
  t5:=Tryz.underlying5
  a5:=Tryz.isAgg5
  z5:=Tryz.sizeOf5
  v5:=Tryz.zeroValue5
  t9:=Tryz.underlying9
  a9:=Tryz.isAgg9
  z9:=Tryz.sizeOf9
  v9:=Tryz.zeroValue9
  t26:=Tryz.underlying59
  a26:=Tryz.isAgg59
  z26:=Tryz.sizeOf59
  v26:=Tryz.zeroValue59
  t27:=Tryz.underlying59
  a27:=Tryz.isAgg59
  z27:=Tryz.sizeOf59
  v27:=Tryz.zeroValue59
  t29:=Tryz.underlying9
  a29:=Tryz.isAgg9
  z29:=Tryz.sizeOf9
  v29:=Tryz.zeroValue9
  t32:=Tryz.underlying103
  a32:=Tryz.isAgg103
  z32:=Tryz.sizeOf103
  v32:=Tryz.zeroValue103
  t35:=Tryz.underlying127
  a35:=Tryz.isAgg127
  z35:=Tryz.sizeOf127
  v35:=Tryz.zeroValue127
  t36:=Tryz.underlying128
  a36:=Tryz.isAgg128
  z36:=Tryz.sizeOf128
  v36:=Tryz.zeroValue128
  t41:=Tryz.underlying104
  a41:=Tryz.isAgg104
  z41:=Tryz.sizeOf104
  v41:=Tryz.zeroValue104
  t44:=Tryz.underlying134
  a44:=Tryz.isAgg134
  z44:=Tryz.sizeOf134
  v44:=Tryz.zeroValue134
  t46:=Tryz.underlying136
  a46:=Tryz.isAgg136
  z46:=Tryz.sizeOf136
  v46:=Tryz.zeroValue136
  t53:=Tryz.underlying150
  a53:=Tryz.isAgg150
  z53:=Tryz.sizeOf150
  v53:=Tryz.zeroValue150
  t57:=Tryz.underlying154
  a57:=Tryz.isAgg154
  z57:=Tryz.sizeOf154
  v57:=Tryz.zeroValue154
  t63:=Tryz.underlying170
  a63:=Tryz.isAgg170
  z63:=Tryz.sizeOf170
  v63:=Tryz.zeroValue170
  t64:=Tryz.underlying171
  a64:=Tryz.isAgg171
  z64:=Tryz.sizeOf171
  v64:=Tryz.zeroValue171 }
theorem Tryz.sortsM (m:Nat):AnyZ.SortsIn Tryz.prog Tryz.sortedM_ren Fence.wide m :=
  ⟨fun blk off cap ss W hH hblk hsz=>callsIn_wide.2 (AnyM.slices_Sort_string Tryz.sortM blk off cap ss W hH hblk hsz),
   fun p cap W=>callsIn_wide.2 (AnyM.slices_Sort_string_none Tryz.sortM p cap W)⟩

theorem Tryz.mapsKeys (mb:Option Nat) (W:World):CallsIn Fence.wide 5 Tryz.prog 42 #[.map mb] W fun e w'=>e=.returned (.func (.func 58) #[] #[.pointer (some ⟨W.heap.size,0,none⟩)])∧w'=W.alloc (.cells #[.map mb] 64) :=
  AnyZ.keys_in Tryz.keysM Fence.wide 5 trivial rfl mb W

set_option maxHeartbeats 1000000 in
theorem Tryz.sortedKeys {H:Type} (b nn:Nat) (D0:DataW H) (R:Value→Option (DataW H × List MemPlace)) (w:World) (hown:w.ownsMap Tryz.prog 9 R b nn D0) (hmax:Maps.size D0≤maxLen) (hbytes:Maps.size D0 * 16≤140737488355328) :
    CallsIn Fence.wide 5 Tryz.prog 41 #[.func (.func 58) #[] #[.pointer (some ⟨w.heap.size,0,none⟩)]] (w.alloc (.cells #[.map (some b)] 64)) fun e w'=>∃ (v:Value) (ss:List (List UInt8)),e=.returned v∧ss.Perm (strKeys D0) ∧
      w'.ownsRow (w.alloc (.cells #[.map (some b)] 64)).heap.size 9 1 v ss.length ((ss.mergeSort (fun x y=>decide (x≤y))).map encStr)∧(v=.slice none 0 0↔ss=[])∧Below (w.alloc (.cells #[.map (some b)] 64)).heap.size (w.alloc (.cells #[.map (some b)] 64)) w':=by
  have hbl:=hown.lt
  have hseq:SeqGives Fence.wide 2 Tryz.prog 58 #[.pointer (some ⟨w.heap.size,0,none⟩)] encStr (fun ss=>ss.Perm (strKeys D0)) (Maps.size D0) (w.alloc (.cells #[.map (some b)] 64)) :=
    AnyZ.keys_gives (ρ:=Tryz.keysM_ren) { Tryz.keysM with } Fence.wide _ trivial rfl (by omega) w.heap.size b nn D0 _ (by simp) (by simp) (by
      obtain ⟨es,clock,hb,Ft,hs,hD⟩:=hown;exact ⟨es,clock,(Below.heap_alloc _ _ b hbl).trans hb,Ft,hs,hD⟩)
  exact AnyZ.sorted_in Tryz.sortedM Fence.wide 5 trivial trivial trivial trivial rfl (by omega) (Tryz.sortsM _) (enters_of Tryz.func57 (by kernel_rfl) rfl) 58 #[.pointer (some ⟨w.heap.size,0,none⟩)] trivial (enters_of Tryz.func58 (by kernel_rfl) rfl) _ _ hmax hbytes _ hseq

end Go.Proofs.YtdfjeokjmigkaaaGreat
end
section
set_option maxRecDepth 20000
namespace Go.Proofs.YtdfjeokjmigkaaaGreat
open Go Go.Eng Go.RowKit Go.Tr
set_option maxHeartbeats 4000000 in
theorem zGr (t:List Ent) (p:ByteArray) (hr:rise t) (hl:t.length≤140737488355328):HFun Tryz.prog 105 [.lst false (aQ t),.v (.string p),.v (.func (.func 106) #[] #[])] (fun h st=>h=.tup [.v (.int .i64 (bV t p)),.v (.bool (qG t p))]):=by
 refine eF (N:=49) Tryz.func105 rfl Tryz.ntmps105 Tryz.results105 (by simp) ?_
 obtain ⟨p1,p2⟩:=qE1 hr p
 have pl:=zH2 t p
 refine zE ?_;refine zJ (fun K hK=>?_);simp (disch:=omega) only [push_cast,↓Int.cast_ofNat_Int,Nat.reduceBEq,Nat.reduceAdd,Nat.reduceLT,Nat.reduceEqDiff,reduceIte,reduceCtorEq,Nat.reduceLeDiff,Nat.reduceSub,List.reduceReplicate,Nat.reduceMul,Int.reduceToNat,Nat.reducePow];refine hK _ ?_
 refine zE ?_;refine zJ (fun K hK=>?_);simp (disch:=omega) only [push_cast,↓Int.cast_ofNat_Int,Nat.reduceBEq,Nat.reduceAdd,Nat.reduceLT,Nat.reduceEqDiff,reduceIte,reduceCtorEq,Nat.reduceLeDiff,Nat.reduceSub,List.reduceReplicate,Nat.reduceMul,Int.reduceToNat,Nat.reducePow,yV];refine hK _ ?_
 refine zE ?_;refine zJ (fun K hK=>?_);simp (disch:=omega) only [push_cast,↓Int.cast_ofNat_Int,Nat.reduceBEq,Nat.reduceAdd,Nat.reduceLT,Nat.reduceEqDiff,reduceIte,reduceCtorEq,Nat.reduceLeDiff,Nat.reduceSub,List.reduceReplicate,Nat.reduceMul,Int.reduceToNat,Nat.reducePow,yV];refine hK _ ?_
 refine zE ?_;refine zD ?_;refine bR (fun x:Nat × Nat=>⟨[(0,.lst false (aQ t)),(1,.v (.string p)),(2,.v (.func (.func 106) #[] #[])),(8,.v (.int .i64 t.length)),(9,.v (.int .i64 x.1)),(10,.v (.int .i64 x.2))],[]⟩)
  (fun x=>x.1≤bV t p∧bV t p≤x.2∧x.2≤t.length) (fun x=>x.2 - x.1) [0,1,2,8,9,10] [] (0,t.length) rfl ⟨Nat.zero_le _,pl,Nat.le_refl _⟩ ?_
 rintro ⟨i,j⟩ ⟨h1,h2,h3⟩;simp only at h1 h2 h3
 by_cases hlt:i < j
 ·refine zE ?_;refine zE ?_;refine zJ (fun K hK=>?_);simp (disch:=omega) only [push_cast,↓Int.cast_ofNat_Int,Nat.reduceBEq,Nat.reduceAdd,Nat.reduceLT,Nat.reduceEqDiff,reduceIte,reduceCtorEq,Nat.reduceLeDiff,Nat.reduceSub,List.reduceReplicate,Nat.reduceMul,Int.reduceToNat,Nat.reducePow];refine hK _ ?_
  refine zA ?_;refine yD rfl ?_;refine zC ?_;refine zA ?_;obtain ⟨m,hm⟩:∃ m,m=(i + j) / 2:=⟨_,rfl⟩
  have he:IntKind.i64.wrap ((IntKind.u64.wrap ((i:Int) + j)).fdiv (2 ^ min 1 IntKind.u64.bits))=(m:Int):=by
   have hw:IntKind.u64.wrap ((i:Int) + j)=(i:Int) + j:=by rw [IntKind.wrap_u64];omega
   rw [hw,show (2 ^ min 1 IntKind.u64.bits:Int)=2 from rfl,Int.fdiv_eq_ediv_of_nonneg _ (by omega)]
   rw [show ((i:Int) + j) / 2=(m:Int) by omega]
   exact zRi (by omega) (by omega)
  have hmt:m < t.length:=by omega
  refine zD ?_;refine zE ?_;refine zJ (fun K hK=>?_);simp (disch:=omega) only [push_cast,↓Int.cast_ofNat_Int,Nat.reduceBEq,Nat.reduceAdd,Nat.reduceLT,Nat.reduceEqDiff,reduceIte,reduceCtorEq,Nat.reduceLeDiff,Nat.reduceSub,List.reduceReplicate,Nat.reduceMul,Int.reduceToNat,Nat.reducePow]
  rw [he];refine ⟨by omega,hK _ ?_⟩
  clear hK K he;refine zE ?_;refine zJ (fun K hK=>?_);simp (disch:=omega) only [push_cast,↓Int.cast_ofNat_Int,Nat.reduceBEq,Nat.reduceAdd,Nat.reduceLT,Nat.reduceEqDiff,reduceIte,reduceCtorEq,Nat.reduceLeDiff,Nat.reduceSub,List.reduceReplicate,Nat.reduceMul,Int.reduceToNat,Nat.reducePow,yV,yU,yW hmt]
  refine aW zL6 (qMx t[m] p) (.cons (qL0 _) (.cons (.v _) .nil)) ?_
  have hb:=zQp t[m].1 p
  cases hc:blt t[m].1 p with
 |true =>
   rw [hc,decide_eq_true_iff] at hb
   have:m < bV t p:=by
    rcases Nat.lt_or_ge m (bV t p) with h|h
    ·exact h
    ·rw [p2 m hmt h] at hc;cases hc
   with_reducible refine aB ?_;simp (disch:=omega) only [push_cast,↓Int.cast_ofNat_Int,Nat.reduceBEq,Nat.reduceAdd,Nat.reduceLT,Nat.reduceEqDiff,reduceIte,reduceCtorEq,Nat.reduceLeDiff,Nat.reduceSub,List.reduceReplicate,Nat.reduceMul,Int.reduceToNat,Nat.reducePow]
   refine hK _ ?_;refine zA ?_;refine yD rfl ?_
   skip
   refine zJ (fun K hK=>?_);simp (disch:=omega) only [push_cast,↓Int.cast_ofNat_Int,Nat.reduceBEq,Nat.reduceAdd,Nat.reduceLT,Nat.reduceEqDiff,reduceIte,reduceCtorEq,Nat.reduceLeDiff,Nat.reduceSub,List.reduceReplicate,Nat.reduceMul,Int.reduceToNat,Nat.reducePow];refine hK _ ?_
   refine zB ?_;refine zA ?_;exact ⟨(m + 1,j),rfl,⟨by dsimp only;omega,h2,h3⟩,by dsimp only;omega⟩
 |false =>
   rw [hc,decide_eq_false_iff_not] at hb
   have:bV t p≤m:=by
    rcases Nat.lt_or_ge m (bV t p) with h|h
    ·rw [p1 m hmt h] at hc;cases hc
    ·exact h
   with_reducible refine aB ?_;simp (disch:=omega) only [push_cast,↓Int.cast_ofNat_Int,Nat.reduceBEq,Nat.reduceAdd,Nat.reduceLT,Nat.reduceEqDiff,reduceIte,reduceCtorEq,Nat.reduceLeDiff,Nat.reduceSub,List.reduceReplicate,Nat.reduceMul,Int.reduceToNat,Nat.reducePow]
   refine hK _ ?_;refine zA ?_;refine yC rfl ?_
   skip
   refine zJ (fun K hK=>?_);simp (disch:=omega) only [push_cast,↓Int.cast_ofNat_Int,Nat.reduceBEq,Nat.reduceAdd,Nat.reduceLT,Nat.reduceEqDiff,reduceIte,reduceCtorEq,Nat.reduceLeDiff,Nat.reduceSub,List.reduceReplicate,Nat.reduceMul,Int.reduceToNat,Nat.reducePow];refine hK _ ?_
   refine zB ?_;refine zA ?_;exact ⟨(i,m),rfl,⟨h1,this,by dsimp only;omega⟩,by dsimp only;omega⟩
 ·have hij:i=bV t p∧j=bV t p:=by omega
  obtain ⟨rfl,rfl⟩:=hij;refine zE ?_;refine zE ?_;refine zJ (fun K hK=>?_);simp (disch:=omega) only [push_cast,↓Int.cast_ofNat_Int,Nat.reduceBEq,Nat.reduceAdd,Nat.reduceLT,Nat.reduceEqDiff,reduceIte,reduceCtorEq,Nat.reduceLeDiff,Nat.reduceSub,List.reduceReplicate,Nat.reduceMul,Int.reduceToNat,Nat.reducePow];refine hK _ ?_
  refine zA ?_;refine yC rfl ?_;refine zT ?_;refine zG ?_;refine zG ?_;refine zH ?_;refine zE ?_
  have th:=qF hr p
  by_cases hp:bV t p < t.length
  ·have hb:=zQq t[bV t p].1 p
   by_cases hc:t[bV t p].1=p
   ·rw [decide_eq_true hc,decide_eq_true_iff] at hb;rw [decide_eq_true ⟨hp,hc⟩] at th;rw [th];refine zJ (fun K hK=>?_);simp (disch:=omega) only [push_cast,↓Int.cast_ofNat_Int,Nat.reduceBEq,Nat.reduceAdd,Nat.reduceLT,Nat.reduceEqDiff,reduceIte,reduceCtorEq,Nat.reduceLeDiff,Nat.reduceSub,List.reduceReplicate,Nat.reduceMul,Int.reduceToNat,Nat.reducePow,yV,yU,yW hp]
    refine aW zL6 (qMx t[bV t p] p) (.cons (qL0 _) (.cons (.v _) .nil)) ?_;with_reducible refine aB ?_;simp (disch:=omega) only [push_cast,↓Int.cast_ofNat_Int,Nat.reduceBEq,Nat.reduceAdd,Nat.reduceLT,Nat.reduceEqDiff,reduceIte,reduceCtorEq,Nat.reduceLeDiff,Nat.reduceSub,List.reduceReplicate,Nat.reduceMul,Int.reduceToNat,Nat.reducePow]
    refine hK _ ?_;refine zA ?_;refine zW ?_;simp only [yA,yM,yH,yE,aA,aC,yK,yJ,zS,zM,Nat.reduceEqDiff,reduceIte,reduceCtorEq];exact mT rfl
   ·rw [decide_eq_false hc,decide_eq_false_iff_not] at hb;rw [decide_eq_false (fun ⟨_,h⟩=>hc h)] at th
    rw [th];refine zJ (fun K hK=>?_);simp (disch:=omega) only [push_cast,↓Int.cast_ofNat_Int,Nat.reduceBEq,Nat.reduceAdd,Nat.reduceLT,Nat.reduceEqDiff,reduceIte,reduceCtorEq,Nat.reduceLeDiff,Nat.reduceSub,List.reduceReplicate,Nat.reduceMul,Int.reduceToNat,Nat.reducePow,yV,yU,yW hp]
    refine aW zL6 (qMx t[bV t p] p) (.cons (qL0 _) (.cons (.v _) .nil)) ?_;with_reducible refine aB ?_;simp (disch:=omega) only [push_cast,↓Int.cast_ofNat_Int,Nat.reduceBEq,Nat.reduceAdd,Nat.reduceLT,Nat.reduceEqDiff,reduceIte,reduceCtorEq,Nat.reduceLeDiff,Nat.reduceSub,List.reduceReplicate,Nat.reduceMul,Int.reduceToNat,Nat.reducePow]
    refine hK _ ?_;refine zA ?_;refine zW ?_;simp only [yA,yM,yH,yE,aA,aC,yK,yJ,zS,zM,Nat.reduceEqDiff,reduceIte,reduceCtorEq];exact mT rfl
  ·rw [decide_eq_false (fun ⟨h,_⟩=>hp h)] at th
   rw [th];refine zJ (fun K hK=>?_);simp (disch:=omega) only [push_cast,↓Int.cast_ofNat_Int,Nat.reduceBEq,Nat.reduceAdd,Nat.reduceLT,Nat.reduceEqDiff,reduceIte,reduceCtorEq,Nat.reduceLeDiff,Nat.reduceSub,List.reduceReplicate,Nat.reduceMul,Int.reduceToNat,Nat.reducePow];refine hK _ ?_
   refine zA ?_;refine zW ?_;simp only [yA,yM,yH,yE,aA,aC,yK,yJ,zS,zM,Nat.reduceEqDiff,reduceIte,reduceCtorEq];exact mT rfl
set_option maxHeartbeats 1000000 in
theorem zTw (t:List Ent) (p:ByteArray) (hr:rise t) (hl:t.length≤140737488355328):HFun Tryz.prog 78 [.lst false (aQ t),.v (.string p)] (fun h st=>h=.tup [.v (.int .i64 (bV t p)),.v (.bool (qG t p))]):=by
 refine eF (N:=11) Tryz.func78 rfl Tryz.ntmps78 Tryz.results78 (by simp) ?_
 refine zE ?_;refine zJ (fun K hK=>?_);simp (disch:=omega) only [push_cast,↓Int.cast_ofNat_Int,Nat.reduceBEq,Nat.reduceAdd,Nat.reduceLT,Nat.reduceEqDiff,reduceIte,reduceCtorEq,Nat.reduceLeDiff,Nat.reduceSub,List.reduceReplicate,Nat.reduceMul,Int.reduceToNat,Nat.reducePow];refine hK _ ?_
 refine zE ?_;refine zJ (fun K hK=>?_);simp (disch:=omega) only [push_cast,↓Int.cast_ofNat_Int,Nat.reduceBEq,Nat.reduceAdd,Nat.reduceLT,Nat.reduceEqDiff,reduceIte,reduceCtorEq,Nat.reduceLeDiff,Nat.reduceSub,List.reduceReplicate,Nat.reduceMul,Int.reduceToNat,Nat.reducePow]
 refine qJz (xs:=[.int .i64 (bV t p),.bool (qG t p)]) zWd (zGr t p hr hl) (.cons (aH (yT _)) (.cons (.v _) (.cons (.v _) .nil))) ?_;with_reducible refine aB ?_;simp (disch:=omega) only [push_cast,↓Int.cast_ofNat_Int,Nat.reduceBEq,Nat.reduceAdd,Nat.reduceLT,Nat.reduceEqDiff,reduceIte,reduceCtorEq,Nat.reduceLeDiff,Nat.reduceSub,List.reduceReplicate,Nat.reduceMul,Int.reduceToNat,Nat.reducePow]
 refine hK _ ?_;refine zA ?_;refine zW ?_;simp only [yA,yM,yH,yE,aA,aC,yK,yJ,zS,zM,Nat.reduceEqDiff,reduceIte,reduceCtorEq];exact mT rfl
set_option maxHeartbeats 1000000 in
theorem zLm (t:List Ent) (p:ByteArray) (hr:rise t) (hl:t.length≤140737488355328):HFun Tryz.prog 60 [.lst false (aQ t),.v (.string p)] (fun h st=>h=fE (eH t p)∧st=[]):=by
 refine eF (N:=20) Tryz.func60 rfl Tryz.ntmps60 Tryz.results60 (by simp) ?_
 rw [zAn hr p];refine zE ?_;refine zJ (fun K hK=>?_);simp (disch:=omega) only [push_cast,↓Int.cast_ofNat_Int,Nat.reduceBEq,Nat.reduceAdd,Nat.reduceLT,Nat.reduceEqDiff,reduceIte,reduceCtorEq,Nat.reduceLeDiff,Nat.reduceSub,List.reduceReplicate,Nat.reduceMul,Int.reduceToNat,Nat.reducePow];refine hK _ ?_
 refine zE ?_;refine zE ?_;refine zJ (fun K hK=>?_);simp (disch:=omega) only [push_cast,↓Int.cast_ofNat_Int,Nat.reduceBEq,Nat.reduceAdd,Nat.reduceLT,Nat.reduceEqDiff,reduceIte,reduceCtorEq,Nat.reduceLeDiff,Nat.reduceSub,List.reduceReplicate,Nat.reduceMul,Int.reduceToNat,Nat.reducePow]
 refine qJz (xs:=[.int .i64 (bV t p),.bool (qG t p)]) zX1 (zTw t p hr hl) (.cons (aH (yT _)) (.cons (.v _) .nil)) ?_;with_reducible refine aB ?_;simp (disch:=omega) only [push_cast,↓Int.cast_ofNat_Int,Nat.reduceBEq,Nat.reduceAdd,Nat.reduceLT,Nat.reduceEqDiff,reduceIte,reduceCtorEq,Nat.reduceLeDiff,Nat.reduceSub,List.reduceReplicate,Nat.reduceMul,Int.reduceToNat,Nat.reducePow]
 refine hK _ ?_;refine zE ?_;refine zJ (fun K hK=>?_);simp (disch:=omega) only [push_cast,↓Int.cast_ofNat_Int,Nat.reduceBEq,Nat.reduceAdd,Nat.reduceLT,Nat.reduceEqDiff,reduceIte,reduceCtorEq,Nat.reduceLeDiff,Nat.reduceSub,List.reduceReplicate,Nat.reduceMul,Int.reduceToNat,Nat.reducePow];refine hK _ ?_
 have tp:=qF hr p
 by_cases h:bV t p < t.length∧qG t p=true
 ·rw [dif_pos h]
  have hlt:=h.1
  have ht:=h.2
  refine eQ rfl (fun _=>?_) (fun e=>by rw [ht] at e;cases e)
  refine zE ?_;refine zJ (fun K hK=>?_);simp (disch:=omega) only [push_cast,↓Int.cast_ofNat_Int,Nat.reduceBEq,Nat.reduceAdd,Nat.reduceLT,Nat.reduceEqDiff,reduceIte,reduceCtorEq,Nat.reduceLeDiff,Nat.reduceSub,List.reduceReplicate,Nat.reduceMul,Int.reduceToNat,Nat.reducePow,yV,yU,yW hlt];refine hK _ ?_
  refine zA ?_;refine zW ?_;refine zK ?_;simp (disch:=omega) only [yA,yM,yH,yE,aA,aC,yK,yJ,push_cast,↓Int.cast_ofNat_Int,Nat.reduceBEq,Nat.reduceAdd,Nat.reduceLT,Nat.reduceEqDiff,reduceIte,reduceCtorEq,Nat.reduceLeDiff,Nat.reduceSub,List.reduceReplicate,Nat.reduceMul,Int.reduceToNat,Int.toNat_natCast,Nat.reducePow,reduceIte];exact qDw (n:=t[bV t p].2) ⟨rfl,rfl⟩
 ·rw [dif_neg h]
  have ht:qG t p=false:=by
   cases e:qG t p with
  |false=>rfl
  |true =>
    have tp:=qF hr p
    rw [e] at tp;exact (h ⟨(decide_eq_true_iff.1 tp.symm).1,e⟩).elim
  refine eQ rfl (fun e=>by rw [ht] at e;cases e) (fun _=>?_)
  refine zC ?_;refine zE ?_;refine zJ (fun K hK=>?_);simp (disch:=omega) only [push_cast,↓Int.cast_ofNat_Int,Nat.reduceBEq,Nat.reduceAdd,Nat.reduceLT,Nat.reduceEqDiff,reduceIte,reduceCtorEq,Nat.reduceLeDiff,Nat.reduceSub,List.reduceReplicate,Nat.reduceMul,Int.reduceToNat,Nat.reducePow];refine hK _ ?_
  refine zA ?_;refine zW ?_;simp (disch:=omega) only [yA,yM,yH,yE,aA,aC,yK,yJ,push_cast,↓Int.cast_ofNat_Int,Nat.reduceBEq,Nat.reduceAdd,Nat.reduceLT,Nat.reduceEqDiff,reduceIte,reduceCtorEq,Nat.reduceLeDiff,Nat.reduceSub,List.reduceReplicate,Nat.reduceMul,Int.reduceToNat,Int.toNat_natCast,Nat.reducePow,reduceIte];exact qDw (n:=qX5) ⟨rfl,rfl⟩
end Go.Proofs.YtdfjeokjmigkaaaGreat
end
