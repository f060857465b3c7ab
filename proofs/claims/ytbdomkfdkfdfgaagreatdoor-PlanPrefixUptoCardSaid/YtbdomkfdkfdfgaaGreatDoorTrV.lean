/-
  tree.Diff, tree.Same, walked.
-/
import Derived.Shelf.SlIter.Nil
import Derived.Shelf.SortM.Plain
import Derived.Shelf.SortM.SortNone
import Derived.Ground.GgzProg
import Derived.Ground.SlgmProg
import Derived.Shelf.SlGeneric
import Derived.Test.YtbdomkfdkfdfgaaGreatDoorProg
import Derived.Test.YtbdomkfdkfdfgaaGreatDoorTfl
import Derived.Test.YtbdomkfdkfdfgaaGreatDoorTrU
import Derived.Test.YtbdomkfdkfdfgaaGreatDoorChn
set_option linter.unusedVariables false
set_option linter.unusedSimpArgs false
section
namespace Go.Proofs.YtbdomkfdkfdfgaaGreatDoor
open Go Go.RowKit Go.Maps Go.Sort Go.Shelf Go.Proofs
def Tryz.keysM_ren:Go.Shelf.Ren:=⟨fun|7=>77|10=>106|n=>n,fun|23=>90|26=>9|3=>3|28=>122|0=>0|27=>121|33=>105|4=>4|n=>n,fun|n=>n⟩
theorem Tryz.keysM:Go.Proofs.SlLaysZ.n7 Tryz.prog Tryz.keysM_ren:={
  mixed:=by kernel_rfl
  f7:=⟨Tryz.f77.name,by decide,Tryz.func77.trans (congrArg some (by kernel_rfl))⟩
  f10:=⟨Tryz.f106.name,by decide,Tryz.func106.trans (congrArg some (by kernel_rfl))⟩
  t0:=Tryz.underlying0
  a0:=Tryz.isAgg0
  z0:=Tryz.sizeOf0
  v0:=Tryz.zeroValue0
  t4:=Tryz.underlying4
  a4:=Tryz.isAgg4
  z4:=Tryz.sizeOf4
  v4:=Tryz.zeroValue4
  t23:=Tryz.underlying90
  a23:=Tryz.isAgg90
  z23:=Tryz.sizeOf90
  v23:=Tryz.zeroValue90
  t26:=Tryz.underlying9
  a26:=Tryz.isAgg9
  z26:=Tryz.sizeOf9
  v26:=Tryz.zeroValue9
  t27:=Tryz.underlying121
  a27:=Tryz.isAgg121
  z27:=Tryz.sizeOf121
  v27:=Tryz.zeroValue121
  t28:=Tryz.underlying122
  a28:=Tryz.isAgg122
  z28:=Tryz.sizeOf122
  v28:=Tryz.zeroValue122
  t33:=Tryz.underlying105
  a33:=Tryz.isAgg105
  z33:=Tryz.sizeOf105
  v33:=Tryz.zeroValue105 }
def Tryz.sortedM_ren:Go.Shelf.Ren:=⟨fun|6=>76|8=>105|9=>41|11=>131|13=>64|12=>63|23=>92|24=>93|14=>83|15=>84|16=>85|17=>86|18=>87|19=>88|20=>89|21=>90|22=>91|25=>119|26=>120|27=>121|28=>122|29=>123|30=>124|31=>143|n=>n,fun|26=>9|28=>122|24=>81|0=>0|3=>3|37=>109|48=>136|50=>138|4=>4|40=>130|39=>129|45=>110|5=>5|9=>9|51=>158|55=>162|57=>180|58=>181|33=>105|n=>n,fun|n=>n⟩
theorem Tryz.sortedM:Go.Proofs.SlLaysZ.n6 Tryz.prog Tryz.sortedM_ren:={
  mixed:=by kernel_rfl
  f6:=⟨Tryz.f76.name,by decide,Tryz.func76.trans (congrArg some (by kernel_rfl))⟩
  f8:=⟨Tryz.f105.name,by decide,Tryz.func105.trans (congrArg some (by kernel_rfl))⟩
  f11:=⟨Tryz.f131.name,by decide,Tryz.func131.trans (congrArg some (by kernel_rfl))⟩
  t0:=Tryz.underlying0
  a0:=Tryz.isAgg0
  z0:=Tryz.sizeOf0
  v0:=Tryz.zeroValue0
  t24:=Tryz.underlying81
  a24:=Tryz.isAgg81
  z24:=Tryz.sizeOf81
  v24:=Tryz.zeroValue81
  t26:=Tryz.underlying9
  a26:=Tryz.isAgg9
  z26:=Tryz.sizeOf9
  v26:=Tryz.zeroValue9
  t28:=Tryz.underlying122
  a28:=Tryz.isAgg122
  z28:=Tryz.sizeOf122
  v28:=Tryz.zeroValue122
  i26:=by kernel_rfl }
def Tryz.sortM_ren:Go.Shelf.Ren:=⟨fun|6=>41|8=>64|9=>63|19=>92|20=>93|21=>83|22=>84|23=>85|24=>86|25=>87|26=>88|27=>89|28=>90|29=>91|36=>119|31=>120|32=>121|37=>122|38=>123|39=>124|41=>143|n=>n,fun|27=>81|29=>9|3=>3|32=>109|26=>81|0=>0|44=>136|46=>138|4=>4|36=>130|35=>129|41=>110|5=>5|9=>9|53=>158|57=>162|63=>180|64=>181|n=>n,fun|n=>n⟩
theorem Tryz.sortM:Go.Proofs.SlLaysM.n6 Tryz.prog Tryz.sortM_ren:={
  mixed:=by kernel_rfl
  f6:=⟨Tryz.f41.name,by decide,Tryz.func41.trans (congrArg some (by kernel_rfl))⟩
  f8:=Tryz.func64.trans (congrArg some (by kernel_rfl))
  f9:=⟨Tryz.f63.name,by decide,Tryz.func63.trans (congrArg some (by kernel_rfl))⟩
  f19:=Tryz.func92.trans (congrArg some (by kernel_rfl))
  f20:=Tryz.func93.trans (congrArg some (by kernel_rfl))
  f21:=⟨Tryz.f83.name,by decide,Tryz.func83.trans (congrArg some (by kernel_rfl))⟩
  f22:=⟨Tryz.f84.name,by decide,Tryz.func84.trans (congrArg some (by kernel_rfl))⟩
  f23:=⟨Tryz.f85.name,by decide,Tryz.func85.trans (congrArg some (by kernel_rfl))⟩
  f24:=⟨Tryz.f86.name,by decide,Tryz.func86.trans (congrArg some (by kernel_rfl))⟩
  f25:=⟨Tryz.f87.name,by decide,Tryz.func87.trans (congrArg some (by kernel_rfl))⟩
  f26:=⟨Tryz.f88.name,by decide,Tryz.func88.trans (congrArg some (by kernel_rfl))⟩
  f27:=⟨Tryz.f89.name,by decide,Tryz.func89.trans (congrArg some (by kernel_rfl))⟩
  f28:=⟨Tryz.f90.name,by decide,Tryz.func90.trans (congrArg some (by kernel_rfl))⟩
  f29:=⟨Tryz.f91.name,by decide,Tryz.func91.trans (congrArg some (by kernel_rfl))⟩
  f31:=Tryz.func120.trans (congrArg some (by kernel_rfl))
  f32:=Tryz.func121.trans (congrArg some (by kernel_rfl))
  f36:=⟨Tryz.f119.name,by decide,Tryz.func119.trans (congrArg some (by kernel_rfl))⟩
  f37:=⟨Tryz.f122.name,by decide,Tryz.func122.trans (congrArg some (by kernel_rfl))⟩
  f38:=⟨Tryz.f123.name,by decide,Tryz.func123.trans (congrArg some (by kernel_rfl))⟩
  f39:=⟨Tryz.f124.name,by decide,Tryz.func124.trans (congrArg some (by kernel_rfl))⟩
  f41:=⟨Tryz.f143.name,by decide,Tryz.func143.trans (congrArg some (by kernel_rfl))⟩
  t0:=Tryz.underlying0
  a0:=Tryz.isAgg0
  z0:=Tryz.sizeOf0
  v0:=Tryz.zeroValue0
  t3:=Tryz.underlying3
  a3:=Tryz.isAgg3
  z3:=Tryz.sizeOf3
  v3:=Tryz.zeroValue3
  t4:=Tryz.underlying4
  a4:=Tryz.isAgg4
  z4:=Tryz.sizeOf4
  v4:=Tryz.zeroValue4
  t5:=Tryz.underlying5
  a5:=Tryz.isAgg5
  z5:=Tryz.sizeOf5
  v5:=Tryz.zeroValue5
  t9:=Tryz.underlying9
  a9:=Tryz.isAgg9
  z9:=Tryz.sizeOf9
  v9:=Tryz.zeroValue9
  t26:=Tryz.underlying81
  a26:=Tryz.isAgg81
  z26:=Tryz.sizeOf81
  v26:=Tryz.zeroValue81
  t27:=Tryz.underlying81
  a27:=Tryz.isAgg81
  z27:=Tryz.sizeOf81
  v27:=Tryz.zeroValue81
  t29:=Tryz.underlying9
  a29:=Tryz.isAgg9
  z29:=Tryz.sizeOf9
  v29:=Tryz.zeroValue9
  t32:=Tryz.underlying109
  a32:=Tryz.isAgg109
  z32:=Tryz.sizeOf109
  v32:=Tryz.zeroValue109
  t35:=Tryz.underlying129
  a35:=Tryz.isAgg129
  z35:=Tryz.sizeOf129
  v35:=Tryz.zeroValue129
  t36:=Tryz.underlying130
  a36:=Tryz.isAgg130
  z36:=Tryz.sizeOf130
  v36:=Tryz.zeroValue130
  t41:=Tryz.underlying110
  a41:=Tryz.isAgg110
  z41:=Tryz.sizeOf110
  v41:=Tryz.zeroValue110
  t44:=Tryz.underlying136
  a44:=Tryz.isAgg136
  z44:=Tryz.sizeOf136
  v44:=Tryz.zeroValue136
  t46:=Tryz.underlying138
  a46:=Tryz.isAgg138
  z46:=Tryz.sizeOf138
  v46:=Tryz.zeroValue138
  t53:=Tryz.underlying158
  a53:=Tryz.isAgg158
  z53:=Tryz.sizeOf158
  v53:=Tryz.zeroValue158
  t57:=Tryz.underlying162
  a57:=Tryz.isAgg162
  z57:=Tryz.sizeOf162
  v57:=Tryz.zeroValue162
  t63:=Tryz.underlying180
  a63:=Tryz.isAgg180
  z63:=Tryz.sizeOf180
  v63:=Tryz.zeroValue180
  t64:=Tryz.underlying181
  a64:=Tryz.isAgg181
  z64:=Tryz.sizeOf181
  v64:=Tryz.zeroValue181 }
theorem Tryz.sortsM (m:Nat):AnyZ.SortsIn Tryz.prog Tryz.sortedM_ren Fence.wide m :=
  ⟨fun blk off cap ss W hH hblk hsz=>callsIn_wide.2 (AnyM.slices_Sort_string Tryz.sortM blk off cap ss W hH hblk hsz),
   fun p cap W=>callsIn_wide.2 (AnyM.slices_Sort_string_none Tryz.sortM p cap W)⟩

theorem Tryz.mapsKeys (mb:Option Nat) (W:World):CallsIn Fence.wide 5 Tryz.prog 77 #[.map mb] W fun e w'=>e=.returned (.func (.func 106) #[] #[.pointer (some ⟨W.heap.size,0,none⟩)])∧w'=W.alloc (.cells #[.map mb] 90) :=
  AnyZ.keys_in Tryz.keysM Fence.wide 5 trivial rfl mb W

set_option maxHeartbeats 1000000 in
theorem Tryz.sortedKeys {H : Type} (b nn : Nat) (D0 : DataW H) (R : Value → Option (DataW H × List MemPlace)) (w : World) (hown : w.ownsMap Tryz.prog 9 R b nn D0) (hmax : Maps.size D0 ≤ maxLen) (hbytes : Maps.size D0 * 16 ≤ 140737488355328) :
    CallsIn Fence.wide 5 Tryz.prog 76 #[.func (.func 106) #[] #[.pointer (some ⟨w.heap.size,0,none⟩)]] (w.alloc (.cells #[.map (some b)] 90)) fun e w'=>∃ (v:Value) (ss:List (List UInt8)),e=.returned v∧ss.Perm (strKeys D0) ∧
      w'.ownsRow (w.alloc (.cells #[.map (some b)] 90)).heap.size 9 1 v ss.length ((ss.mergeSort (fun x y=>decide (x≤y))).map encStr)∧(v=.slice none 0 0↔ss=[])∧Below (w.alloc (.cells #[.map (some b)] 90)).heap.size (w.alloc (.cells #[.map (some b)] 90)) w':=by
  have hbl:=hown.lt
  have hseq:SeqGives Fence.wide 2 Tryz.prog 106 #[.pointer (some ⟨w.heap.size,0,none⟩)] encStr (fun ss=>ss.Perm (strKeys D0)) (Maps.size D0) (w.alloc (.cells #[.map (some b)] 90)) :=
    AnyZ.keys_gives (ρ:=Tryz.keysM_ren) { Tryz.keysM with } Fence.wide _ trivial rfl (by omega) w.heap.size b nn D0 _ (by simp) (by simp) (by
      obtain ⟨es,clock,hb,Ft,hs,hD⟩:=hown;exact ⟨es,clock,(Below.heap_alloc _ _ b hbl).trans hb,Ft,hs,hD⟩)
  exact AnyZ.sorted_in Tryz.sortedM Fence.wide 5 trivial trivial trivial trivial rfl (by omega) (Tryz.sortsM _) (enters_of Tryz.func41 (by kernel_rfl) rfl) 106 #[.pointer (some ⟨w.heap.size,0,none⟩)] trivial (enters_of Tryz.func106 (by kernel_rfl) rfl) _ _ hmax hbytes _ hseq

end Go.Proofs.YtbdomkfdkfdfgaaGreatDoor
end
section
set_option maxRecDepth 20000
namespace Go.Tr
open Go Go.Eng
end Go.Tr
namespace Go.Proofs.YtbdomkfdkfdfgaaGreatDoor
open Go Go.Eng Go.RowKit Go.Tr
set_option maxHeartbeats 4000000 in
theorem zQf (a b:List Ent) (ha:a.length≤140737488355328):HFun Tryz.prog 79 [.lst false (aG a),.lst false (aG b)] (fun h st=>h=.v (.bool (decide (a=b)))):=by
 refine eX (N:=26) Tryz.func79 rfl Tryz.ntmps79 Tryz.results79 (by simp) ?_
 refine zE ?_;refine zJ (fun K hK=>?_);simp (disch:=omega) only [push_cast,↓Int.cast_ofNat_Int,simprocAttr];refine hK _ ?_;clear hK K
 by_cases hl:a.length=b.length
 ·refine zE ?_;refine zE ?_;refine zJ (fun K hK=>?_);simp (disch:=omega) only [push_cast,↓Int.cast_ofNat_Int,simprocAttr,yV];refine hK _ ?_;clear hK K
  refine zA ?_;refine yC rfl ?_;refine zC ?_;refine zE ?_;refine zE ?_;refine zJ (fun K hK=>?_);simp (disch:=omega) only [push_cast,↓Int.cast_ofNat_Int,simprocAttr,yV];refine hK _ ?_;clear hK K
  refine zA ?_;refine zD ?_;refine cP (fun i:Nat=>⟨[(0,.lst false (aG a)),(1,.lst false (aG b)),(12,.v (.int .i64 a.length)),(13,.v (.int .i64 i))],[]⟩) (fun i=>i≤a.length∧a.take i=b.take i) (fun i=>a.length - i) [0,1,12,13] [] 0 rfl ⟨Nat.zero_le _,rfl⟩ ?_
  rintro i ⟨hi,hp⟩
  by_cases hia:i < a.length
  ·have hib:i < b.length:=by omega
   refine zE ?_;refine zJ (fun K hK=>?_);simp (disch:=omega) only [push_cast,↓Int.cast_ofNat_Int,simprocAttr];refine hK _ ?_;clear hK K
   refine zE ?_;refine yD rfl ?_;refine zC ?_;refine zE ?_;refine zD ?_;refine zE ?_;refine zJ (fun K hK=>?_);simp (disch:=omega) only [push_cast,↓Int.cast_ofNat_Int,simprocAttr];refine hK _ ?_;clear hK K
   by_cases he:a[i]=b[i]
   ·have he':decide ((a[i].1,a[i].2.1,a[i].2.2)=(b[i].1,b[i].2.1,b[i].2.2))=true:=by rw [he];simp
    refine zE ?_;refine kP 9 mixed (by kernel_rfl) (fun K hK K1 hK1=>?_);simp (disch:=omega) only [push_cast,↓Int.cast_ofNat_Int,simprocAttr,yV,yU,yW hia,yW hib,he']
    refine ⟨_,eqE _ _ _ _ _ _,?_⟩;with_reducible refine aB ?_;simp (disch:=omega) only [push_cast,↓Int.cast_ofNat_Int,simprocAttr,he']
    refine hK1 _ ?_;(try clear hK1 K1);with_reducible refine aB ?_;simp (disch:=omega) only [push_cast,↓Int.cast_ofNat_Int,simprocAttr,he']
    refine hK _ ?_;clear hK K;refine yC rfl ?_;refine zC ?_;refine zB ?_;refine zA ?_;refine zJ (fun K hK=>?_);simp (disch:=omega) only [push_cast,↓Int.cast_ofNat_Int,simprocAttr];refine hK _ ?_;clear hK K
    refine zA ?_;exact ⟨i + 1,rfl,⟨hia,qRt hp hia hib he⟩,by omega⟩
   ·have he':decide ((a[i].1,a[i].2.1,a[i].2.2)=(b[i].1,b[i].2.1,b[i].2.2))=false:=decide_eq_false he
    refine zE ?_;refine kP 9 mixed (by kernel_rfl) (fun K hK K1 hK1=>?_);simp (disch:=omega) only [push_cast,↓Int.cast_ofNat_Int,simprocAttr,yV,yU,yW hia,yW hib,he']
    refine ⟨_,eqE _ _ _ _ _ _,?_⟩;with_reducible refine aB ?_;simp (disch:=omega) only [push_cast,↓Int.cast_ofNat_Int,simprocAttr,he']
    refine hK1 _ ?_;(try clear hK1 K1);with_reducible refine aB ?_;simp (disch:=omega) only [push_cast,↓Int.cast_ofNat_Int,simprocAttr,he']
    refine hK _ ?_;clear hK K;refine yD rfl ?_;refine zE ?_;refine zJ (fun K hK=>?_);simp (disch:=omega) only [push_cast,↓Int.cast_ofNat_Int,simprocAttr];refine hK _ ?_;clear hK K
    refine zA ?_;refine zW ?_;refine zL ?_;refine zK ?_;refine zK ?_;refine zL ?_;refine zK ?_;simp only [yA,yM,yH,yE,aA,aC,yK,yJ,zS,zM,Nat.reduceEqDiff,reduceIte,reduceCtorEq];refine aJ ?_;rw [decide_eq_false (fun e=>he (by subst e;rfl))]
  ·refine zE ?_;refine zJ (fun K hK=>?_);simp (disch:=omega) only [push_cast,↓Int.cast_ofNat_Int,simprocAttr];refine hK _ ?_;clear hK K
   refine zE ?_;refine yC rfl ?_;refine zT ?_;refine zG ?_;refine zG ?_;refine zH ?_;refine zE ?_;refine zJ (fun K hK=>?_);simp (disch:=omega) only [push_cast,↓Int.cast_ofNat_Int,simprocAttr];refine hK _ ?_;clear hK K
   refine zA ?_;refine zW ?_;simp only [yA,yM,yH,yE,aA,aC,yK,yJ,zS,zM,Nat.reduceEqDiff,reduceIte,reduceCtorEq];refine aJ ?_;rw [List.take_of_length_le (by omega),List.take_of_length_le (by omega)] at hp
   rw [decide_eq_true hp]
 ·refine zE ?_;refine zE ?_;refine zJ (fun K hK=>?_);simp (disch:=omega) only [push_cast,↓Int.cast_ofNat_Int,simprocAttr,yV];refine hK _ ?_;clear hK K
  refine zA ?_;refine yD rfl ?_;refine zE ?_;refine zJ (fun K hK=>?_);simp (disch:=omega) only [push_cast,↓Int.cast_ofNat_Int,simprocAttr];refine hK _ ?_;clear hK K
  refine zA ?_;refine zW ?_;refine zK ?_;simp only [yA,yM,yH,yE,aA,aC,yK,yJ,zS,zM,Nat.reduceEqDiff,reduceIte,reduceCtorEq];refine aJ ?_;rw [decide_eq_false (fun e=>hl (by rw [e]))]
set_option maxHeartbeats 1000000 in
theorem qKp (a b:List Ent) (ha:a.length≤140737488355328):HFun Tryz.prog 52 [.lst false (aG a),.lst false (aG b)] (fun h st=>h=.v (.bool (decide (a=b)))):=by
 refine eX (N:=8) Tryz.func52 rfl Tryz.ntmps52 Tryz.results52 (by simp) ?_
 refine zE ?_;refine zJ (fun K hK=>?_);simp (disch:=omega) only [push_cast,↓Int.cast_ofNat_Int,simprocAttr];refine hK _ ?_;clear hK K
 refine zE ?_;refine zJ (fun K hK=>?_);simp (disch:=omega) only [push_cast,↓Int.cast_ofNat_Int,simprocAttr]
 refine bE zW6 (zQf a b ha) (.cons (aL (yT _)) (.cons (aL (yT _)) .nil)) ?_;with_reducible refine aB ?_;simp (disch:=omega) only [push_cast,↓Int.cast_ofNat_Int,simprocAttr]
 refine hK _ ?_;clear hK K;refine zA ?_;refine zW ?_;simp only [yA,yM,yH,yE,aA,aC,yK,yJ,zS,zM,Nat.reduceEqDiff,reduceIte,reduceCtorEq];exact aJ rfl
end Go.Proofs.YtbdomkfdkfdfgaaGreatDoor
end
