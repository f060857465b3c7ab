/-
  The disk's call Restart: what was not synced is lost, by chance.
-/
import Derived.Shelf.SlIter.Nil
import Derived.Shelf.SortM.Plain
import Derived.Shelf.SortM.SortNone
import Derived.Ground.GgzProg
import Derived.Ground.SlgmProg
import Derived.Shelf.SlGeneric
import Derived.Test.YtdmnijnogabchaaDoorProg
import Derived.Test.YtdmnijnogabchaaDoorSwP
import Derived.Test.YtdmnijnogabchaaDoorPln
set_option linter.unusedVariables false
set_option linter.unusedSimpArgs false
section
namespace Go.Proofs.YtdmnijnogabchaaDoor
open Go Go.RowKit Go.Maps Go.Sort Go.Shelf Go.Proofs
def Tryd.sortedM_ren:Go.Shelf.Ren:=⟨fun|6=>35|8=>45|9=>46|11=>54|13=>56|12=>55|23=>68|24=>69|14=>59|15=>60|16=>61|17=>62|18=>63|19=>64|20=>65|21=>66|22=>67|25=>75|26=>76|27=>77|28=>78|29=>79|30=>80|31=>84|n=>n,fun|26=>9|28=>73|24=>25|0=>0|3=>3|37=>89|48=>100|50=>102|4=>4|40=>93|39=>92|45=>62|5=>5|9=>9|51=>106|55=>110|57=>114|58=>115|33=>46|n=>n,fun|n=>n⟩
theorem Tryd.sortedM:Go.Proofs.SlLaysZ.n6 Tryd.prog Tryd.sortedM_ren:={
  mixed:=by kernel_rfl
  f6:=⟨Tryd.f35.name,by decide,Tryd.func35.trans (congrArg some (by kernel_rfl))⟩
  f8:=⟨Tryd.f45.name,by decide,Tryd.func45.trans (congrArg some (by kernel_rfl))⟩
  f11:=⟨Tryd.f54.name,by decide,Tryd.func54.trans (congrArg some (by kernel_rfl))⟩
  t0:=Tryd.underlying0
  a0:=Tryd.isAgg0
  z0:=Tryd.sizeOf0
  v0:=Tryd.zeroValue0
  t24:=Tryd.underlying25
  a24:=Tryd.isAgg25
  z24:=Tryd.sizeOf25
  v24:=Tryd.zeroValue25
  t26:=Tryd.underlying9
  a26:=Tryd.isAgg9
  z26:=Tryd.sizeOf9
  v26:=Tryd.zeroValue9
  t28:=Tryd.underlying73
  a28:=Tryd.isAgg73
  z28:=Tryd.sizeOf73
  v28:=Tryd.zeroValue73
  i26:=by kernel_rfl }
def Tryd.sortM_ren:Go.Shelf.Ren:=⟨fun|6=>46|8=>56|9=>55|19=>68|20=>69|21=>59|22=>60|23=>61|24=>62|25=>63|26=>64|27=>65|28=>66|29=>67|36=>75|31=>76|32=>77|37=>78|38=>79|39=>80|41=>84|n=>n,fun|27=>25|29=>9|3=>3|32=>89|26=>25|0=>0|44=>100|46=>102|4=>4|36=>93|35=>92|41=>62|5=>5|9=>9|53=>106|57=>110|63=>114|64=>115|n=>n,fun|n=>n⟩
theorem Tryd.sortM:Go.Proofs.SlLaysM.n6 Tryd.prog Tryd.sortM_ren:={
  mixed:=by kernel_rfl
  f6:=⟨Tryd.f46.name,by decide,Tryd.func46.trans (congrArg some (by kernel_rfl))⟩
  f8:=Tryd.func56.trans (congrArg some (by kernel_rfl))
  f9:=⟨Tryd.f55.name,by decide,Tryd.func55.trans (congrArg some (by kernel_rfl))⟩
  f19:=Tryd.func68.trans (congrArg some (by kernel_rfl))
  f20:=Tryd.func69.trans (congrArg some (by kernel_rfl))
  f21:=⟨Tryd.f59.name,by decide,Tryd.func59.trans (congrArg some (by kernel_rfl))⟩
  f22:=⟨Tryd.f60.name,by decide,Tryd.func60.trans (congrArg some (by kernel_rfl))⟩
  f23:=⟨Tryd.f61.name,by decide,Tryd.func61.trans (congrArg some (by kernel_rfl))⟩
  f24:=⟨Tryd.f62.name,by decide,Tryd.func62.trans (congrArg some (by kernel_rfl))⟩
  f25:=⟨Tryd.f63.name,by decide,Tryd.func63.trans (congrArg some (by kernel_rfl))⟩
  f26:=⟨Tryd.f64.name,by decide,Tryd.func64.trans (congrArg some (by kernel_rfl))⟩
  f27:=⟨Tryd.f65.name,by decide,Tryd.func65.trans (congrArg some (by kernel_rfl))⟩
  f28:=⟨Tryd.f66.name,by decide,Tryd.func66.trans (congrArg some (by kernel_rfl))⟩
  f29:=⟨Tryd.f67.name,by decide,Tryd.func67.trans (congrArg some (by kernel_rfl))⟩
  f31:=Tryd.func76.trans (congrArg some (by kernel_rfl))
  f32:=Tryd.func77.trans (congrArg some (by kernel_rfl))
  f36:=⟨Tryd.f75.name,by decide,Tryd.func75.trans (congrArg some (by kernel_rfl))⟩
  f37:=⟨Tryd.f78.name,by decide,Tryd.func78.trans (congrArg some (by kernel_rfl))⟩
  f38:=⟨Tryd.f79.name,by decide,Tryd.func79.trans (congrArg some (by kernel_rfl))⟩
  f39:=⟨Tryd.f80.name,by decide,Tryd.func80.trans (congrArg some (by kernel_rfl))⟩
  f41:=⟨Tryd.f84.name,by decide,Tryd.func84.trans (congrArg some (by kernel_rfl))⟩
  t0:=Tryd.underlying0
  a0:=Tryd.isAgg0
  z0:=Tryd.sizeOf0
  v0:=Tryd.zeroValue0
  t3:=Tryd.underlying3
  a3:=Tryd.isAgg3
  z3:=Tryd.sizeOf3
  v3:=Tryd.zeroValue3
  t4:=Tryd.underlying4
  a4:=Tryd.isAgg4
  z4:=Tryd.sizeOf4
  v4:=Tryd.zeroValue4
  t5:=Tryd.underlying5
  a5:=Tryd.isAgg5
  z5:=Tryd.sizeOf5
  v5:=Tryd.zeroValue5
  t9:=Tryd.underlying9
  a9:=Tryd.isAgg9
  z9:=Tryd.sizeOf9
  v9:=Tryd.zeroValue9
  t26:=Tryd.underlying25
  a26:=Tryd.isAgg25
  z26:=Tryd.sizeOf25
  v26:=Tryd.zeroValue25
  t27:=Tryd.underlying25
  a27:=Tryd.isAgg25
  z27:=Tryd.sizeOf25
  v27:=Tryd.zeroValue25
  t29:=Tryd.underlying9
  a29:=Tryd.isAgg9
  z29:=Tryd.sizeOf9
  v29:=Tryd.zeroValue9
  t32:=Tryd.underlying89
  a32:=Tryd.isAgg89
  z32:=Tryd.sizeOf89
  v32:=Tryd.zeroValue89
  t35:=Tryd.underlying92
  a35:=Tryd.isAgg92
  z35:=Tryd.sizeOf92
  v35:=Tryd.zeroValue92
  t36:=Tryd.underlying93
  a36:=Tryd.isAgg93
  z36:=Tryd.sizeOf93
  v36:=Tryd.zeroValue93
  t41:=Tryd.underlying62
  a41:=Tryd.isAgg62
  z41:=Tryd.sizeOf62
  v41:=Tryd.zeroValue62
  t44:=Tryd.underlying100
  a44:=Tryd.isAgg100
  z44:=Tryd.sizeOf100
  v44:=Tryd.zeroValue100
  t46:=Tryd.underlying102
  a46:=Tryd.isAgg102
  z46:=Tryd.sizeOf102
  v46:=Tryd.zeroValue102
  t53:=Tryd.underlying106
  a53:=Tryd.isAgg106
  z53:=Tryd.sizeOf106
  v53:=Tryd.zeroValue106
  t57:=Tryd.underlying110
  a57:=Tryd.isAgg110
  z57:=Tryd.sizeOf110
  v57:=Tryd.zeroValue110
  t63:=Tryd.underlying114
  a63:=Tryd.isAgg114
  z63:=Tryd.sizeOf114
  v63:=Tryd.zeroValue114
  t64:=Tryd.underlying115
  a64:=Tryd.isAgg115
  z64:=Tryd.sizeOf115
  v64:=Tryd.zeroValue115 }
theorem Tryd.sortsM (m:Nat):AnyZ.SortsIn Tryd.prog Tryd.sortedM_ren Fence.wide m :=
  ⟨fun blk off cap ss W hH hblk hsz=>callsIn_wide.2 (AnyM.slices_Sort_string Tryd.sortM blk off cap ss W hH hblk hsz),
   fun p cap W=>callsIn_wide.2 (AnyM.slices_Sort_string_none Tryd.sortM p cap W)⟩

end Go.Proofs.YtdmnijnogabchaaDoor
end
section
namespace Go.Proofs.YtdmnijnogabchaaDoor
open Go Go.RowKit Go.Maps Go.Sort Go.Shelf Go.Proofs
def Tryd.keysM_renN:Go.Shelf.Ren:=⟨fun|7=>36|10=>47|n=>n,fun|23=>64|26=>9|3=>29|28=>73|0=>0|27=>72|33=>46|4=>4|n=>n,fun|n=>n⟩
theorem Tryd.keysMN:Go.Proofs.SlLaysZ.n7 Tryd.prog Tryd.keysM_renN:={
 mixed:=by kernel_rfl
 f7:=⟨Tryd.f36.name,by decide,Tryd.func36.trans (congrArg some (by kernel_rfl))⟩
 f10:=⟨Tryd.f47.name,by decide,Tryd.func47.trans (congrArg some (by kernel_rfl))⟩
 t0:=Tryd.underlying0
 a0:=Tryd.isAgg0
 z0:=Tryd.sizeOf0
 v0:=Tryd.zeroValue0
 t4:=Tryd.underlying4
 a4:=Tryd.isAgg4
 z4:=Tryd.sizeOf4
 v4:=Tryd.zeroValue4
 t23:=Tryd.underlying64
 a23:=Tryd.isAgg64
 z23:=Tryd.sizeOf64
 v23:=Tryd.zeroValue64
 t26:=Tryd.underlying9
 a26:=Tryd.isAgg9
 z26:=Tryd.sizeOf9
 v26:=Tryd.zeroValue9
 t27:=Tryd.underlying72
 a27:=Tryd.isAgg72
 z27:=Tryd.sizeOf72
 v27:=Tryd.zeroValue72
 t28:=Tryd.underlying73
 a28:=Tryd.isAgg73
 z28:=Tryd.sizeOf73
 v28:=Tryd.zeroValue73
 t33:=Tryd.underlying46
 a33:=Tryd.isAgg46
 z33:=Tryd.sizeOf46
 v33:=Tryd.zeroValue46 }

theorem Tryd.mapsKeysN (mb:Option Nat) (W:World):CallsIn Fence.wide 5 Tryd.prog 36 #[.map mb] W fun e w'=>e=.returned (.func (.func 47) #[] #[.pointer (some ⟨W.heap.size,0,none⟩)])∧w'=W.alloc (.cells #[.map mb] 64) :=
 AnyZ.keys_in Tryd.keysMN Fence.wide 5 trivial rfl mb W

set_option maxHeartbeats 1000000 in
theorem Tryd.sortedKeysN {H:Type} (b nn:Nat) (D0:DataW H) (R:Value→Option (DataW H × List MemPlace)) (w:World) (hown:w.ownsMap Tryd.prog 9 R b nn D0) (hmax:Maps.size D0≤maxLen) (hbytes:Maps.size D0 * 16≤140737488355328) :
  CallsIn Fence.wide 5 Tryd.prog 35 #[.func (.func 47) #[] #[.pointer (some ⟨w.heap.size,0,none⟩)]] (w.alloc (.cells #[.map (some b)] 64)) fun e w'=>∃ (v:Value) (ss:List (List UInt8)),e=.returned v∧ss.Perm (strKeys D0) ∧
   w'.ownsRow (w.alloc (.cells #[.map (some b)] 64)).heap.size 9 1 v ss.length ((ss.mergeSort (fun x y=>decide (x≤y))).map encStr)∧(v=.slice none 0 0↔ss=[])∧Below (w.alloc (.cells #[.map (some b)] 64)).heap.size (w.alloc (.cells #[.map (some b)] 64)) w':=by
 have hbl:=hown.lt
 have hseq:SeqGives Fence.wide 2 Tryd.prog 47 #[.pointer (some ⟨w.heap.size,0,none⟩)] encStr (fun ss=>ss.Perm (strKeys D0)) (Maps.size D0) (w.alloc (.cells #[.map (some b)] 64)) :=
  AnyZ.keys_gives (ρ:=Tryd.keysM_renN) { Tryd.keysMN with } Fence.wide _ trivial rfl (by omega) w.heap.size b nn D0 _ (by simp) (by simp) (by
   obtain ⟨es,clock,hb,Ft,hs,hD⟩:=hown;exact ⟨es,clock,(Below.heap_alloc _ _ b hbl).trans hb,Ft,hs,hD⟩)
 exact AnyZ.sorted_in Tryd.sortedM Fence.wide 5 trivial trivial trivial trivial rfl (by omega) (Tryd.sortsM _) (enters_of Tryd.func46 (by kernel_rfl) rfl) 47 #[.pointer (some ⟨w.heap.size,0,none⟩)] trivial (enters_of Tryd.func47 (by kernel_rfl) rfl) _ _ hmax hbytes _ hseq

end Go.Proofs.YtdmnijnogabchaaDoor
end
section
set_option maxRecDepth 20000
namespace Go.Proofs.YtdmnijnogabchaaDoor
open Go Go.Eng Go.RowKit Go.Tr Go.Dk
end Go.Proofs.YtdmnijnogabchaaDoor
end
section
set_option maxRecDepth 20000
namespace Go.Proofs.YtdmnijnogabchaaDoor
open Go Go.Eng Go.RowKit Go.Tr Go.Dk
end Go.Proofs.YtdmnijnogabchaaDoor
end
