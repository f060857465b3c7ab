/-
  The disk's calls: Rename.
-/
import Derived.Shelf.SlIter.Nil
import Derived.Shelf.SortM.Plain
import Derived.Shelf.SortM.SortNone
import Derived.Ground.GgzProg
import Derived.Ground.SlgmProg
import Derived.Shelf.SlGeneric
import Derived.Test.YtlihpgmgiehjkaaGreatDoorProg
import Derived.Test.YtlihpgmgiehjkaaGreatDoorSwP
set_option linter.unusedVariables false
set_option linter.unusedSimpArgs false
section
namespace Go.Proofs.YtlihpgmgiehjkaaGreatDoor
open Go Go.RowKit Go.Maps Go.Sort Go.Shelf Go.Proofs
def Tryz.keysM_ren:Go.Shelf.Ren:=⟨fun|7=>55|10=>91|n=>n,fun|23=>61|26=>9|3=>97|28=>88|0=>0|27=>87|33=>103|4=>4|n=>n,fun|n=>n⟩
theorem Tryz.keysM:Go.Proofs.SlLaysZ.n7 Tryz.prog Tryz.keysM_ren:={
  mixed:=by kernel_rfl
  f7:=⟨Tryz.f55.name,by decide,Tryz.func55.trans (congrArg some (by kernel_rfl))⟩
  f10:=⟨Tryz.f91.name,by decide,Tryz.func91.trans (congrArg some (by kernel_rfl))⟩
  t0:=Tryz.underlying0
  a0:=Tryz.isAgg0
  z0:=Tryz.sizeOf0
  v0:=Tryz.zeroValue0
  t4:=Tryz.underlying4
  a4:=Tryz.isAgg4
  z4:=Tryz.sizeOf4
  v4:=Tryz.zeroValue4
  t23:=Tryz.underlying61
  a23:=Tryz.isAgg61
  z23:=Tryz.sizeOf61
  v23:=Tryz.zeroValue61
  t26:=Tryz.underlying9
  a26:=Tryz.isAgg9
  z26:=Tryz.sizeOf9
  v26:=Tryz.zeroValue9
  t27:=Tryz.underlying87
  a27:=Tryz.isAgg87
  z27:=Tryz.sizeOf87
  v27:=Tryz.zeroValue87
  t28:=Tryz.underlying88
  a28:=Tryz.isAgg88
  z28:=Tryz.sizeOf88
  v28:=Tryz.zeroValue88
  t33:=Tryz.underlying103
  a33:=Tryz.isAgg103
  z33:=Tryz.sizeOf103
  v33:=Tryz.zeroValue103 }
def Tryz.sortedM_ren:Go.Shelf.Ren:=⟨fun|6=>47|8=>86|9=>60|11=>99|13=>95|12=>94|23=>114|24=>115|14=>105|15=>106|16=>107|17=>108|18=>109|19=>110|20=>111|21=>112|22=>113|25=>121|26=>122|27=>123|28=>124|29=>125|30=>126|31=>135|n=>n,fun|26=>9|28=>88|24=>58|0=>0|3=>3|37=>119|48=>140|50=>98|4=>4|40=>134|39=>133|45=>117|5=>5|9=>9|51=>143|55=>147|57=>151|58=>152|33=>103|n=>n,fun|n=>n⟩
theorem Tryz.sortedM:Go.Proofs.SlLaysZ.n6 Tryz.prog Tryz.sortedM_ren:={
  mixed:=by kernel_rfl
  f6:=⟨Tryz.f47.name,by decide,Tryz.func47.trans (congrArg some (by kernel_rfl))⟩
  f8:=⟨Tryz.f86.name,by decide,Tryz.func86.trans (congrArg some (by kernel_rfl))⟩
  f11:=⟨Tryz.f99.name,by decide,Tryz.func99.trans (congrArg some (by kernel_rfl))⟩
  t0:=Tryz.underlying0
  a0:=Tryz.isAgg0
  z0:=Tryz.sizeOf0
  v0:=Tryz.zeroValue0
  t24:=Tryz.underlying58
  a24:=Tryz.isAgg58
  z24:=Tryz.sizeOf58
  v24:=Tryz.zeroValue58
  t26:=Tryz.underlying9
  a26:=Tryz.isAgg9
  z26:=Tryz.sizeOf9
  v26:=Tryz.zeroValue9
  t28:=Tryz.underlying88
  a28:=Tryz.isAgg88
  z28:=Tryz.sizeOf88
  v28:=Tryz.zeroValue88
  i26:=by kernel_rfl }
def Tryz.sortM_ren:Go.Shelf.Ren:=⟨fun|6=>60|8=>95|9=>94|19=>114|20=>115|21=>105|22=>106|23=>107|24=>108|25=>109|26=>110|27=>111|28=>112|29=>113|36=>121|31=>122|32=>123|37=>124|38=>125|39=>126|41=>135|n=>n,fun|27=>58|29=>9|3=>3|32=>119|26=>58|0=>0|44=>140|46=>98|4=>4|36=>134|35=>133|41=>117|5=>5|9=>9|53=>143|57=>147|63=>151|64=>152|n=>n,fun|n=>n⟩
theorem Tryz.sortM:Go.Proofs.SlLaysM.n6 Tryz.prog Tryz.sortM_ren:={
  mixed:=by kernel_rfl
  f6:=⟨Tryz.f60.name,by decide,Tryz.func60.trans (congrArg some (by kernel_rfl))⟩
  f8:=Tryz.func95.trans (congrArg some (by kernel_rfl))
  f9:=⟨Tryz.f94.name,by decide,Tryz.func94.trans (congrArg some (by kernel_rfl))⟩
  f19:=Tryz.func114.trans (congrArg some (by kernel_rfl))
  f20:=Tryz.func115.trans (congrArg some (by kernel_rfl))
  f21:=⟨Tryz.f105.name,by decide,Tryz.func105.trans (congrArg some (by kernel_rfl))⟩
  f22:=⟨Tryz.f106.name,by decide,Tryz.func106.trans (congrArg some (by kernel_rfl))⟩
  f23:=⟨Tryz.f107.name,by decide,Tryz.func107.trans (congrArg some (by kernel_rfl))⟩
  f24:=⟨Tryz.f108.name,by decide,Tryz.func108.trans (congrArg some (by kernel_rfl))⟩
  f25:=⟨Tryz.f109.name,by decide,Tryz.func109.trans (congrArg some (by kernel_rfl))⟩
  f26:=⟨Tryz.f110.name,by decide,Tryz.func110.trans (congrArg some (by kernel_rfl))⟩
  f27:=⟨Tryz.f111.name,by decide,Tryz.func111.trans (congrArg some (by kernel_rfl))⟩
  f28:=⟨Tryz.f112.name,by decide,Tryz.func112.trans (congrArg some (by kernel_rfl))⟩
  f29:=⟨Tryz.f113.name,by decide,Tryz.func113.trans (congrArg some (by kernel_rfl))⟩
  f31:=Tryz.func122.trans (congrArg some (by kernel_rfl))
  f32:=Tryz.func123.trans (congrArg some (by kernel_rfl))
  f36:=⟨Tryz.f121.name,by decide,Tryz.func121.trans (congrArg some (by kernel_rfl))⟩
  f37:=⟨Tryz.f124.name,by decide,Tryz.func124.trans (congrArg some (by kernel_rfl))⟩
  f38:=⟨Tryz.f125.name,by decide,Tryz.func125.trans (congrArg some (by kernel_rfl))⟩
  f39:=⟨Tryz.f126.name,by decide,Tryz.func126.trans (congrArg some (by kernel_rfl))⟩
  f41:=⟨Tryz.f135.name,by decide,Tryz.func135.trans (congrArg some (by kernel_rfl))⟩
  t0:=Tryz.underlying0
  a0:=Tryz.isAgg0
  z0:=Tryz.sizeOf0
  v0:=Tryz.zeroValue0
  t3:=Tryz.underlying3
  a3:=Tryz.isAgg3
  z3:=Tryz.sizeOf3
  v3:=Tryz.zeroValue3
  t4:=Tryz.underlying4
  a4:=Tryz.isAgg4
  z4:=Tryz.sizeOf4
  v4:=Tryz.zeroValue4
  t5:=Tryz.underlying5
  a5:=Tryz.isAgg5
  z5:=Tryz.sizeOf5
  v5:=Tryz.zeroValue5
  t9:=Tryz.underlying9
  a9:=Tryz.isAgg9
  z9:=Tryz.sizeOf9
  v9:=Tryz.zeroValue9
  t26:=Tryz.underlying58
  a26:=Tryz.isAgg58
  z26:=Tryz.sizeOf58
  v26:=Tryz.zeroValue58
  t27:=Tryz.underlying58
  a27:=Tryz.isAgg58
  z27:=Tryz.sizeOf58
  v27:=Tryz.zeroValue58
  t29:=Tryz.underlying9
  a29:=Tryz.isAgg9
  z29:=Tryz.sizeOf9
  v29:=Tryz.zeroValue9
  t32:=Tryz.underlying119
  a32:=Tryz.isAgg119
  z32:=Tryz.sizeOf119
  v32:=Tryz.zeroValue119
  t35:=Tryz.underlying133
  a35:=Tryz.isAgg133
  z35:=Tryz.sizeOf133
  v35:=Tryz.zeroValue133
  t36:=Tryz.underlying134
  a36:=Tryz.isAgg134
  z36:=Tryz.sizeOf134
  v36:=Tryz.zeroValue134
  t41:=Tryz.underlying117
  a41:=Tryz.isAgg117
  z41:=Tryz.sizeOf117
  v41:=Tryz.zeroValue117
  t44:=Tryz.underlying140
  a44:=Tryz.isAgg140
  z44:=Tryz.sizeOf140
  v44:=Tryz.zeroValue140
  t46:=Tryz.underlying98
  a46:=Tryz.isAgg98
  z46:=Tryz.sizeOf98
  v46:=Tryz.zeroValue98
  t53:=Tryz.underlying143
  a53:=Tryz.isAgg143
  z53:=Tryz.sizeOf143
  v53:=Tryz.zeroValue143
  t57:=Tryz.underlying147
  a57:=Tryz.isAgg147
  z57:=Tryz.sizeOf147
  v57:=Tryz.zeroValue147
  t63:=Tryz.underlying151
  a63:=Tryz.isAgg151
  z63:=Tryz.sizeOf151
  v63:=Tryz.zeroValue151
  t64:=Tryz.underlying152
  a64:=Tryz.isAgg152
  z64:=Tryz.sizeOf152
  v64:=Tryz.zeroValue152 }
theorem Tryz.sortsM (m:Nat):AnyZ.SortsIn Tryz.prog Tryz.sortedM_ren Fence.wide m :=
  ⟨fun blk off cap ss W hH hblk hsz=>callsIn_wide.2 (AnyM.slices_Sort_string Tryz.sortM blk off cap ss W hH hblk hsz),
   fun p cap W=>callsIn_wide.2 (AnyM.slices_Sort_string_none Tryz.sortM p cap W)⟩

theorem Tryz.mapsKeys (mb:Option Nat) (W:World):CallsIn Fence.wide 5 Tryz.prog 55 #[.map mb] W fun e w'=>e=.returned (.func (.func 91) #[] #[.pointer (some ⟨W.heap.size,0,none⟩)])∧w'=W.alloc (.cells #[.map mb] 61) :=
  AnyZ.keys_in Tryz.keysM Fence.wide 5 trivial rfl mb W

set_option maxHeartbeats 1000000 in
theorem Tryz.sortedKeys {H : Type} (b nn : Nat) (D0 : DataW H) (R : Value → Option (DataW H × List MemPlace)) (w : World) (hown : w.ownsMap Tryz.prog 9 R b nn D0) (hmax : Maps.size D0 ≤ maxLen) (hbytes : Maps.size D0 * 16 ≤ 140737488355328) :
    CallsIn Fence.wide 5 Tryz.prog 47 #[.func (.func 91) #[] #[.pointer (some ⟨w.heap.size,0,none⟩)]] (w.alloc (.cells #[.map (some b)] 61)) fun e w'=>∃ (v:Value) (ss:List (List UInt8)),e=.returned v∧ss.Perm (strKeys D0) ∧
      w'.ownsRow (w.alloc (.cells #[.map (some b)] 61)).heap.size 9 1 v ss.length ((ss.mergeSort (fun x y=>decide (x≤y))).map encStr)∧(v=.slice none 0 0↔ss=[])∧Below (w.alloc (.cells #[.map (some b)] 61)).heap.size (w.alloc (.cells #[.map (some b)] 61)) w':=by
  have hbl:=hown.lt
  have hseq:SeqGives Fence.wide 2 Tryz.prog 91 #[.pointer (some ⟨w.heap.size,0,none⟩)] encStr (fun ss=>ss.Perm (strKeys D0)) (Maps.size D0) (w.alloc (.cells #[.map (some b)] 61)) :=
    AnyZ.keys_gives (ρ:=Tryz.keysM_ren) { Tryz.keysM with } Fence.wide _ trivial rfl (by omega) w.heap.size b nn D0 _ (by simp) (by simp) (by
      obtain ⟨es,clock,hb,Ft,hs,hD⟩:=hown;exact ⟨es,clock,(Below.heap_alloc _ _ b hbl).trans hb,Ft,hs,hD⟩)
  exact AnyZ.sorted_in Tryz.sortedM Fence.wide 5 trivial trivial trivial trivial rfl (by omega) (Tryz.sortsM _) (enters_of Tryz.func60 (by kernel_rfl) rfl) 91 #[.pointer (some ⟨w.heap.size,0,none⟩)] trivial (enters_of Tryz.func91 (by kernel_rfl) rfl) _ _ hmax hbytes _ hseq

end Go.Proofs.YtlihpgmgiehjkaaGreatDoor
end
section
namespace Go.Proofs.YtlihpgmgiehjkaaGreatDoor
open Go Go.RowKit Go.Maps Go.Sort Go.Shelf Go.Proofs
def Tryz.keysM_renN:Go.Shelf.Ren:=⟨fun|7=>48|10=>87|n=>n,fun|23=>79|26=>9|3=>52|28=>88|0=>0|27=>87|33=>103|4=>4|n=>n,fun|n=>n⟩
theorem Tryz.keysMN:Go.Proofs.SlLaysZ.n7 Tryz.prog Tryz.keysM_renN:={
 mixed:=by kernel_rfl
 f7:=⟨Tryz.f48.name,by decide,Tryz.func48.trans (congrArg some (by kernel_rfl))⟩
 f10:=⟨Tryz.f87.name,by decide,Tryz.func87.trans (congrArg some (by kernel_rfl))⟩
 t0:=Tryz.underlying0
 a0:=Tryz.isAgg0
 z0:=Tryz.sizeOf0
 v0:=Tryz.zeroValue0
 t4:=Tryz.underlying4
 a4:=Tryz.isAgg4
 z4:=Tryz.sizeOf4
 v4:=Tryz.zeroValue4
 t23:=Tryz.underlying79
 a23:=Tryz.isAgg79
 z23:=Tryz.sizeOf79
 v23:=Tryz.zeroValue79
 t26:=Tryz.underlying9
 a26:=Tryz.isAgg9
 z26:=Tryz.sizeOf9
 v26:=Tryz.zeroValue9
 t27:=Tryz.underlying87
 a27:=Tryz.isAgg87
 z27:=Tryz.sizeOf87
 v27:=Tryz.zeroValue87
 t28:=Tryz.underlying88
 a28:=Tryz.isAgg88
 z28:=Tryz.sizeOf88
 v28:=Tryz.zeroValue88
 t33:=Tryz.underlying103
 a33:=Tryz.isAgg103
 z33:=Tryz.sizeOf103
 v33:=Tryz.zeroValue103 }

theorem Tryz.mapsKeysN (mb:Option Nat) (W:World):CallsIn Fence.wide 5 Tryz.prog 48 #[.map mb] W fun e w'=>e=.returned (.func (.func 87) #[] #[.pointer (some ⟨W.heap.size,0,none⟩)])∧w'=W.alloc (.cells #[.map mb] 79) :=
 AnyZ.keys_in Tryz.keysMN Fence.wide 5 trivial rfl mb W

set_option maxHeartbeats 1000000 in
theorem Tryz.sortedKeysN {H:Type} (b nn:Nat) (D0:DataW H) (R:Value→Option (DataW H × List MemPlace)) (w:World) (hown:w.ownsMap Tryz.prog 9 R b nn D0) (hmax:Maps.size D0≤maxLen) (hbytes:Maps.size D0 * 16≤140737488355328) :
  CallsIn Fence.wide 5 Tryz.prog 47 #[.func (.func 87) #[] #[.pointer (some ⟨w.heap.size,0,none⟩)]] (w.alloc (.cells #[.map (some b)] 79)) fun e w'=>∃ (v:Value) (ss:List (List UInt8)),e=.returned v∧ss.Perm (strKeys D0) ∧
   w'.ownsRow (w.alloc (.cells #[.map (some b)] 79)).heap.size 9 1 v ss.length ((ss.mergeSort (fun x y=>decide (x≤y))).map encStr)∧(v=.slice none 0 0↔ss=[])∧Below (w.alloc (.cells #[.map (some b)] 79)).heap.size (w.alloc (.cells #[.map (some b)] 79)) w':=by
 have hbl:=hown.lt
 have hseq:SeqGives Fence.wide 2 Tryz.prog 87 #[.pointer (some ⟨w.heap.size,0,none⟩)] encStr (fun ss=>ss.Perm (strKeys D0)) (Maps.size D0) (w.alloc (.cells #[.map (some b)] 79)) :=
  AnyZ.keys_gives (ρ:=Tryz.keysM_renN) { Tryz.keysMN with } Fence.wide _ trivial rfl (by omega) w.heap.size b nn D0 _ (by simp) (by simp) (by
   obtain ⟨es,clock,hb,Ft,hs,hD⟩:=hown;exact ⟨es,clock,(Below.heap_alloc _ _ b hbl).trans hb,Ft,hs,hD⟩)
 exact AnyZ.sorted_in Tryz.sortedM Fence.wide 5 trivial trivial trivial trivial rfl (by omega) (Tryz.sortsM _) (enters_of Tryz.func60 (by kernel_rfl) rfl) 87 #[.pointer (some ⟨w.heap.size,0,none⟩)] trivial (enters_of Tryz.func87 (by kernel_rfl) rfl) _ _ hmax hbytes _ hseq

end Go.Proofs.YtlihpgmgiehjkaaGreatDoor
end
section
set_option maxRecDepth 20000
namespace Go.Proofs.YtlihpgmgiehjkaaGreatDoor
open Go Go.Eng Go.RowKit Go.Tr Go.Dk
end Go.Proofs.YtlihpgmgiehjkaaGreatDoor
end
