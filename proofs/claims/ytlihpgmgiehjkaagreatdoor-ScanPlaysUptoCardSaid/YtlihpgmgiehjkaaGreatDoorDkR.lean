/-
  The disk's call Restart: what was not synced is lost, by chance.
-/
import Derived.Shelf.SlIter.Nil
import Derived.Shelf.SortM.Plain
import Derived.Shelf.SortM.SortNone
import Derived.Ground.GgzProg
import Derived.Ground.SlgmProg
import Derived.Shelf.SlGeneric
import Derived.Test.YtlihpgmgiehjkaaGreatDoorProg
import Derived.Test.YtlihpgmgiehjkaaGreatDoorDlD
import Derived.Test.YtlihpgmgiehjkaaGreatDoorDlC
set_option linter.unusedVariables false
set_option linter.unusedSimpArgs false
section
namespace Go.Proofs.YtlihpgmgiehjkaaGreatDoor
open Go Go.RowKit Go.Maps Go.Sort Go.Shelf Go.Proofs
def Tryz.keysM_ren:Go.Shelf.Ren:=⟨fun|7=>55|10=>91|n=>n,fun|23=>61|26=>9|3=>97|28=>88|0=>0|27=>87|33=>103|4=>4|n=>n,fun|n=>n⟩
theorem Tryz.keysM:Go.Proofs.SlLaysZ.n7 Tryz.prog Tryz.keysM_ren:={
  mixed:=by kernel_rfl
  f7:=⟨Tryz.f55.name,by decide,Tryz.func55.trans (congrArg some (by kernel_rfl))⟩
  f10:=⟨Tryz.f91.name,by decide,Tryz.func91.trans (congrArg some (by kernel_rfl))⟩
  t0:=Tryz.underlying0
  a0:=Tryz.isAgg0
  z0:=Tryz.sizeOf0
  v0:=Tryz.zeroValue0
  t4:=Tryz.underlying4
  a4:=Tryz.isAgg4
  z4:=Tryz.sizeOf4
  v4:=Tryz.zeroValue4
  t23:=Tryz.underlying61
  a23:=Tryz.isAgg61
  z23:=Tryz.sizeOf61
  v23:=Tryz.zeroValue61
  t26:=Tryz.underlying9
  a26:=Tryz.isAgg9
  z26:=Tryz.sizeOf9
  v26:=Tryz.zeroValue9
  t27:=Tryz.underlying87
  a27:=Tryz.isAgg87
  z27:=Tryz.sizeOf87
  v27:=Tryz.zeroValue87
  t28:=Tryz.underlying88
  a28:=Tryz.isAgg88
  z28:=Tryz.sizeOf88
  v28:=Tryz.zeroValue88
  t33:=Tryz.underlying103
  a33:=Tryz.isAgg103
  z33:=Tryz.sizeOf103
  v33:=Tryz.zeroValue103 }
def Tryz.sortedM_ren:Go.Shelf.Ren:=⟨fun|6=>47|8=>86|9=>60|11=>99|13=>95|12=>94|23=>114|24=>115|14=>105|15=>106|16=>107|17=>108|18=>109|19=>110|20=>111|21=>112|22=>113|25=>121|26=>122|27=>123|28=>124|29=>125|30=>126|31=>135|n=>n,fun|26=>9|28=>88|24=>58|0=>0|3=>3|37=>119|48=>140|50=>98|4=>4|40=>134|39=>133|45=>117|5=>5|9=>9|51=>143|55=>147|57=>151|58=>152|33=>103|n=>n,fun|n=>n⟩
theorem Tryz.sortedM:Go.Proofs.SlLaysZ.n6 Tryz.prog Tryz.sortedM_ren:={
  mixed:=by kernel_rfl
  f6:=⟨Tryz.f47.name,by decide,Tryz.func47.trans (congrArg some (by kernel_rfl))⟩
  f8:=⟨Tryz.f86.name,by decide,Tryz.func86.trans (congrArg some (by kernel_rfl))⟩
  f11:=⟨Tryz.f99.name,by decide,Tryz.func99.trans (congrArg some (by kernel_rfl))⟩
  t0:=Tryz.underlying0
  a0:=Tryz.isAgg0
  z0:=Tryz.sizeOf0
  v0:=Tryz.zeroValue0
  t24:=Tryz.underlying58
  a24:=Tryz.isAgg58
  z24:=Tryz.sizeOf58
  v24:=Tryz.zeroValue58
  t26:=Tryz.underlying9
  a26:=Tryz.isAgg9
  z26:=Tryz.sizeOf9
  v26:=Tryz.zeroValue9
  t28:=Tryz.underlying88
  a28:=Tryz.isAgg88
  z28:=Tryz.sizeOf88
  v28:=Tryz.zeroValue88
  i26:=by kernel_rfl }
def Tryz.sortM_ren:Go.Shelf.Ren:=⟨fun|6=>60|8=>95|9=>94|19=>114|20=>115|21=>105|22=>106|23=>107|24=>108|25=>109|26=>110|27=>111|28=>112|29=>113|36=>121|31=>122|32=>123|37=>124|38=>125|39=>126|41=>135|n=>n,fun|27=>58|29=>9|3=>3|32=>119|26=>58|0=>0|44=>140|46=>98|4=>4|36=>134|35=>133|41=>117|5=>5|9=>9|53=>143|57=>147|63=>151|64=>152|n=>n,fun|n=>n⟩
theorem Tryz.sortM:Go.Proofs.SlLaysM.n6 Tryz.prog Tryz.sortM_ren:={
  mixed:=by kernel_rfl
  f6:=⟨Tryz.f60.name,by decide,Tryz.func60.trans (congrArg some (by kernel_rfl))⟩
  f8:=Tryz.func95.trans (congrArg some (by kernel_rfl))
  f9:=⟨Tryz.f94.name,by decide,Tryz.func94.trans (congrArg some (by kernel_rfl))⟩
  f19:=Tryz.func114.trans (congrArg some (by kernel_rfl))
  f20:=Tryz.func115.trans (congrArg some (by kernel_rfl))
  f21:=⟨Tryz.f105.name,by decide,Tryz.func105.trans (congrArg some (by kernel_rfl))⟩
  f22:=⟨Tryz.f106.name,by decide,Tryz.func106.trans (congrArg some (by kernel_rfl))⟩
  f23:=⟨Tryz.f107.name,by decide,Tryz.func107.trans (congrArg some (by kernel_rfl))⟩
  f24:=⟨Tryz.f108.name,by decide,Tryz.func108.trans (congrArg some (by kernel_rfl))⟩
  f25:=⟨Tryz.f109.name,by decide,Tryz.func109.trans (congrArg some (by kernel_rfl))⟩
  f26:=⟨Tryz.f110.name,by decide,Tryz.func110.trans (congrArg some (by kernel_rfl))⟩
  f27:=⟨Tryz.f111.name,by decide,Tryz.func111.trans (congrArg some (by kernel_rfl))⟩
  f28:=⟨Tryz.f112.name,by decide,Tryz.func112.trans (congrArg some (by kernel_rfl))⟩
  f29:=⟨Tryz.f113.name,by decide,Tryz.func113.trans (congrArg some (by kernel_rfl))⟩
  f31:=Tryz.func122.trans (congrArg some (by kernel_rfl))
  f32:=Tryz.func123.trans (congrArg some (by kernel_rfl))
  f36:=⟨Tryz.f121.name,by decide,Tryz.func121.trans (congrArg some (by kernel_rfl))⟩
  f37:=⟨Tryz.f124.name,by decide,Tryz.func124.trans (congrArg some (by kernel_rfl))⟩
  f38:=⟨Tryz.f125.name,by decide,Tryz.func125.trans (congrArg some (by kernel_rfl))⟩
  f39:=⟨Tryz.f126.name,by decide,Tryz.func126.trans (congrArg some (by kernel_rfl))⟩
  f41:=⟨Tryz.f135.name,by decide,Tryz.func135.trans (congrArg some (by kernel_rfl))⟩
  t0:=Tryz.underlying0
  a0:=Tryz.isAgg0
  z0:=Tryz.sizeOf0
  v0:=Tryz.zeroValue0
  t3:=Tryz.underlying3
  a3:=Tryz.isAgg3
  z3:=Tryz.sizeOf3
  v3:=Tryz.zeroValue3
  t4:=Tryz.underlying4
  a4:=Tryz.isAgg4
  z4:=Tryz.sizeOf4
  v4:=Tryz.zeroValue4
  t5:=Tryz.underlying5
  a5:=Tryz.isAgg5
  z5:=Tryz.sizeOf5
  v5:=Tryz.zeroValue5
  t9:=Tryz.underlying9
  a9:=Tryz.isAgg9
  z9:=Tryz.sizeOf9
  v9:=Tryz.zeroValue9
  t26:=Tryz.underlying58
  a26:=Tryz.isAgg58
  z26:=Tryz.sizeOf58
  v26:=Tryz.zeroValue58
  t27:=Tryz.underlying58
  a27:=Tryz.isAgg58
  z27:=Tryz.sizeOf58
  v27:=Tryz.zeroValue58
  t29:=Tryz.underlying9
  a29:=Tryz.isAgg9
  z29:=Tryz.sizeOf9
  v29:=Tryz.zeroValue9
  t32:=Tryz.underlying119
  a32:=Tryz.isAgg119
  z32:=Tryz.sizeOf119
  v32:=Tryz.zeroValue119
  t35:=Tryz.underlying133
  a35:=Tryz.isAgg133
  z35:=Tryz.sizeOf133
  v35:=Tryz.zeroValue133
  t36:=Tryz.underlying134
  a36:=Tryz.isAgg134
  z36:=Tryz.sizeOf134
  v36:=Tryz.zeroValue134
  t41:=Tryz.underlying117
  a41:=Tryz.isAgg117
  z41:=Tryz.sizeOf117
  v41:=Tryz.zeroValue117
  t44:=Tryz.underlying140
  a44:=Tryz.isAgg140
  z44:=Tryz.sizeOf140
  v44:=Tryz.zeroValue140
  t46:=Tryz.underlying98
  a46:=Tryz.isAgg98
  z46:=Tryz.sizeOf98
  v46:=Tryz.zeroValue98
  t53:=Tryz.underlying143
  a53:=Tryz.isAgg143
  z53:=Tryz.sizeOf143
  v53:=Tryz.zeroValue143
  t57:=Tryz.underlying147
  a57:=Tryz.isAgg147
  z57:=Tryz.sizeOf147
  v57:=Tryz.zeroValue147
  t63:=Tryz.underlying151
  a63:=Tryz.isAgg151
  z63:=Tryz.sizeOf151
  v63:=Tryz.zeroValue151
  t64:=Tryz.underlying152
  a64:=Tryz.isAgg152
  z64:=Tryz.sizeOf152
  v64:=Tryz.zeroValue152 }
theorem Tryz.sortsM (m:Nat):AnyZ.SortsIn Tryz.prog Tryz.sortedM_ren Fence.wide m :=
  ⟨fun blk off cap ss W hH hblk hsz=>callsIn_wide.2 (AnyM.slices_Sort_string Tryz.sortM blk off cap ss W hH hblk hsz),
   fun p cap W=>callsIn_wide.2 (AnyM.slices_Sort_string_none Tryz.sortM p cap W)⟩

theorem Tryz.mapsKeys (mb:Option Nat) (W:World):CallsIn Fence.wide 5 Tryz.prog 55 #[.map mb] W fun e w'=>e=.returned (.func (.func 91) #[] #[.pointer (some ⟨W.heap.size,0,none⟩)])∧w'=W.alloc (.cells #[.map mb] 61) :=
  AnyZ.keys_in Tryz.keysM Fence.wide 5 trivial rfl mb W

set_option maxHeartbeats 1000000 in
theorem Tryz.sortedKeys {H : Type} (b nn : Nat) (D0 : DataW H) (R : Value → Option (DataW H × List MemPlace)) (w : World) (hown : w.ownsMap Tryz.prog 9 R b nn D0) (hmax : Maps.size D0 ≤ maxLen) (hbytes : Maps.size D0 * 16 ≤ 140737488355328) :
    CallsIn Fence.wide 5 Tryz.prog 47 #[.func (.func 91) #[] #[.pointer (some ⟨w.heap.size,0,none⟩)]] (w.alloc (.cells #[.map (some b)] 61)) fun e w'=>∃ (v:Value) (ss:List (List UInt8)),e=.returned v∧ss.Perm (strKeys D0) ∧
      w'.ownsRow (w.alloc (.cells #[.map (some b)] 61)).heap.size 9 1 v ss.length ((ss.mergeSort (fun x y=>decide (x≤y))).map encStr)∧(v=.slice none 0 0↔ss=[])∧Below (w.alloc (.cells #[.map (some b)] 61)).heap.size (w.alloc (.cells #[.map (some b)] 61)) w':=by
  have hbl:=hown.lt
  have hseq:SeqGives Fence.wide 2 Tryz.prog 91 #[.pointer (some ⟨w.heap.size,0,none⟩)] encStr (fun ss=>ss.Perm (strKeys D0)) (Maps.size D0) (w.alloc (.cells #[.map (some b)] 61)) :=
    AnyZ.keys_gives (ρ:=Tryz.keysM_ren) { Tryz.keysM with } Fence.wide _ trivial rfl (by omega) w.heap.size b nn D0 _ (by simp) (by simp) (by
      obtain ⟨es,clock,hb,Ft,hs,hD⟩:=hown;exact ⟨es,clock,(Below.heap_alloc _ _ b hbl).trans hb,Ft,hs,hD⟩)
  exact AnyZ.sorted_in Tryz.sortedM Fence.wide 5 trivial trivial trivial trivial rfl (by omega) (Tryz.sortsM _) (enters_of Tryz.func60 (by kernel_rfl) rfl) 91 #[.pointer (some ⟨w.heap.size,0,none⟩)] trivial (enters_of Tryz.func91 (by kernel_rfl) rfl) _ _ hmax hbytes _ hseq

end Go.Proofs.YtlihpgmgiehjkaaGreatDoor
end
section
set_option maxRecDepth 20000
namespace Go.Proofs.YtlihpgmgiehjkaaGreatDoor
open Go Go.Eng Go.RowKit Go.Tr Go.Dk
theorem zSa (a b:Int):HFun Tryz.prog 56 [.v (.int .u64 a),.v (.int .u64 b)] (fun h st=>h=.v (.int .u64 (qDl a b))):=by
 refine iD (N:=24) Tryz.func56 rfl Tryz.ntmps56 Tryz.results56 (by simp) ?_
 unfold qDl zH7;refine zE ?_;refine zJ (fun K hK=>?_);simp (disch:=omega) only [push_cast,↓iC9,simprocAttr];refine hK _ ?_;clear hK K
 refine zE ?_;refine zJ (fun K hK=>?_);simp (disch:=omega) only [push_cast,↓iC9,simprocAttr];refine hK _ ?_;clear hK K
 generalize IntKind.u64.wrap (a + IntKind.u64.wrap (b * 11400714819323198485))=x;refine zE ?_;refine zJ (fun K hK=>?_);simp (disch:=omega) only [push_cast,↓iC9,simprocAttr];(repeat refine ⟨by first|omega|decide|((repeat' apply And.intro) <;> first|omega|decide),?_⟩);refine hK _ ?_;clear hK K
 refine yB [4,5] [] (by simp only [zZ,zR,zP,zQ,zN,zS,zM,zX,zU,Nat.reduceEqDiff,reduceIte];exact rfl) ?_
 generalize IntKind.u64.wrap (bits .xor .u64 x (x.fdiv (2 ^ min 30 IntKind.u64.bits)) * 13787848793156543929)=y;refine zE ?_;refine zJ (fun K hK=>?_);simp (disch:=omega) only [push_cast,↓iC9,simprocAttr];(repeat refine ⟨by first|omega|decide|((repeat' apply And.intro) <;> first|omega|decide),?_⟩);refine hK _ ?_;clear hK K
 refine yB [4,5] [] (by simp only [zZ,zR,zP,zQ,zN,zS,zM,zX,zU,Nat.reduceEqDiff,reduceIte];exact rfl) ?_
 generalize IntKind.u64.wrap (bits .xor .u64 y (y.fdiv (2 ^ min 27 IntKind.u64.bits)) * 10723151780598845931)=z;refine zE ?_;refine zJ (fun K hK=>?_);simp (disch:=omega) only [push_cast,↓iC9,simprocAttr];(repeat refine ⟨by first|omega|decide|((repeat' apply And.intro) <;> first|omega|decide),?_⟩);refine hK _ ?_;clear hK K
 refine zA ?_;refine zW ?_;simp only [yA,yM,yH,yE,aL,aU,yK,yJ,zS,zM,Nat.reduceEqDiff,reduceIte,reduceCtorEq];exact bK rfl
set_option maxHeartbeats 4000000 in
theorem zEq (d:Dk) (B:Int) (hd:d.Ok B) (hB:B≤1073741824) (hlo:Lo d) (hlen:d.L.length≤1000) (loss:Int) (r1 r2:Nat) :
  HFunM Tryz.prog 23 [.ptr 0 6 0 0,.v (.int .i64 loss)] [(0,.bx false 64 (d.cells r1 r2))] (d.maps kS r1 r2) (fun h st g=>h=.v (.int .i64 0)∧st=[(0,.bx false 64 ((restart d loss).cells r1 r2))]∧g=(restart d loss).maps kS r1 r2):=by
 refine kC (N:=93) Tryz.func23 rfl Tryz.ntmps23 Tryz.results23 (by simp) ?_
 simp only [bM];refine aA ?_;refine aC (fun K hK=>?_);simp (disch:=omega) only [push_cast,↓iC9,simprocAttr];refine hK _ ?_;clear hK K
 refine aA ?_;refine aA ?_;refine aC (fun K hK=>?_);simp (disch:=omega) only [push_cast,↓iC9,simprocAttr];refine hK _ ?_;clear hK K
 refine aB ?_;refine bA rfl ?_;refine aT ?_;refine aA ?_;refine aC (fun K hK=>?_);simp (disch:=omega) only [push_cast,↓iC9,simprocAttr];refine hK _ ?_;clear hK K
 rw [cS];refine aA ?_;refine aA ?_;refine bD ?_;refine aG 4 (fun K1 hK1=>?_);simp (disch:=omega) only [push_cast,↓iC9,simprocAttr];refine hK1 _ ?_;(try clear hK1 K1)
 refine qY0 (i:=0) (fI:=91) (tM:=61) 144 hd.rise (by have:=hd.n;omega) (by kernel_rfl) rfl rfl rfl rfl rfl rfl rfl rfl zUh zS7 (fun b W=>(callsIn_wide.1 (Tryz.mapsKeys (some b) W))) (fun b nn D0 w hown hmax hbytes=>callsIn_wide.1 (Tryz.sortedKeys b nn D0 _ w hown hmax hbytes)) rfl rfl ?_
 refine aG 2 (fun K1 hK1=>?_);simp (disch:=omega) only [push_cast,↓iC9,simprocAttr,aE,aD,cT];refine hK1 _ ?_;(try clear hK1 K1)
 refine aV ?_;obtain ⟨ks,hks⟩:∃ ks,dG d.L=ks:=⟨_,rfl⟩
 have hkl:ks.length=d.L.length:=by rw [← hks];simp [dG]
 have hksz:∀ p ∈ ks,p.size≤1048576:=fun p hp=>by
  rw [← hks] at hp;obtain ⟨e,he,rfl⟩:=List.mem_map.1 hp;exact hd.keys e he
 have hre:restart d loss={ gQ loss ks 0 d with down:=false,armed:=-1 }:=by rw [restart,hks]
 rw [hks];refine aB ?_;refine bL ?_;refine qF (ι:=Nat × Int × Dk) (fun q=>⟨[(0,.ptr 0 6 0 0),(1,.v (.int .i64 loss)),(5,.v (.int .i64 q.2.1)),(18,.own 144),(19,.v (.int .i64 (ks.length:Int))),(20,.v (.int .i64 (q.1:Int)))],
   [(0,.bx false 64 [.v (.map (some r1)),.v (.map (some r2)),.v (.int .i64 q.2.2.steps),.v (.int .i64 q.2.2.stamps),.v (.int .i64 q.2.2.armed),.v (.bool q.2.2.down)]),(144,.sl true 9 1 (dP ks))]⟩)
  (fun q=>q.2.2.maps kS r1 r2) (fun q=>q.1≤ks.length∧gQ loss (ks.drop q.1) q.2.1 q.2.2=gQ loss ks 0 d∧q.2.2.Ok (B + q.1 * 2097153)∧Lo q.2.2∧0≤q.2.1∧q.2.1≤q.1) (fun q=>ks.length - q.1) [0,1,5,18,19,20] [0,144] (0,0,d) rfl rfl
  ⟨Nat.zero_le _,rfl,qT3 hd (by simp),hlo,Int.le_refl _,Int.le_refl _⟩ ?_
 rintro ⟨j,m,e⟩ ⟨hj,hgo,hO,hL,hm0,hm1⟩;dsimp only at hj hgo hO hL hm0 hm1 ⊢
 rcases (Decidable.em (j < ks.length)).symm with h1|h1
 ·have hjl:j=ks.length:=by omega
  rw [hjl,List.drop_length] at hgo
  have hgo:e=gQ loss ks 0 d:=hgo
  refine aA ?_;refine aC (fun K hK=>?_);simp (disch:=omega) only [push_cast,↓iC9,simprocAttr];refine hK _ ?_;clear hK K
  refine aA ?_;refine bA rfl ?_;refine fR ?_;refine cW ?_;refine cW ?_;refine fN ?_;refine aA ?_;refine aC (fun K hK=>?_);simp (disch:=omega) only [push_cast,↓iC9,simprocAttr];refine hK _ ?_;clear hK K
  refine aA ?_;refine aC (fun K hK=>?_);simp (disch:=omega) only [push_cast,↓iC9,simprocAttr];refine hK _ ?_;clear hK K
  refine aB ?_;refine bB ?_;simp only [aF,aN,yH,yE,yK,yJ,aH,zS,zM,Nat.reduceEqDiff,reduceIte,reduceCtorEq];refine bV [0] [] (by first|rfl|simp [bsL,MO.bs]) (by decide) (by decide) (by simp only [push_cast,simprocAttr]) (by simp only [push_cast,simprocAttr]) (by simp only [push_cast,simprocAttr];rfl) (by simp only [push_cast,simprocAttr];rfl) ?_
  refine ⟨rfl,?_,?_⟩
  ·rw [hre,← hgo]
  ·rw [hre,← hgo];rfl
 have hlen2:(ks.length:Int)≤1000:=by omega
 obtain ⟨p,hp⟩:∃ p,p=ks[j]:=⟨_,rfl⟩
 have hgp:(dP ks).getD j []=[FV.v (.string p)]:=by
  rw [dP,List.getD_eq_getElem?_getD,List.getElem?_map,List.getElem?_eq_getElem h1,hp];rfl
 have hps:p.size≤1048576:=hksz p (by rw [hp];exact List.getElem_mem h1)
 have hdr:ks.drop j=p :: ks.drop (j + 1):=by rw [hp];exact List.drop_eq_getElem_cons h1
 rw [hdr,gQ] at hgo
 have hLp:=hL p
 obtain ⟨l1,l2,l3⟩:=hLp
 have hn2:=hO.n
 have hs2:=hO.stamps
 have hne:e.n < maxLen:=by simp only [maxLen];omega
 refine aA ?_;refine aC (fun K hK=>?_);simp (disch:=omega) only [push_cast,↓iC9,simprocAttr];refine hK _ ?_;clear hK K
 refine aA ?_;refine bW rfl ?_;refine aT ?_;refine aA ?_;refine bL ?_;refine aA ?_;refine aC (fun K hK=>?_);simp (disch:=omega) only [push_cast,↓iC9,simprocAttr,cT,sJ,hgp];(repeat refine ⟨by first|omega|decide|((repeat' apply And.intro) <;> first|omega|decide),?_⟩);refine hK _ ?_;clear hK K
 rw [cS];refine aA ?_;refine bD ?_;refine aG 5 (fun K1 hK1=>?_);simp (disch:=omega) only [push_cast,↓iC9,simprocAttr];refine hK1 _ ?_;(try clear hK1 K1)
 refine fH (i:=0) mtI rfl rfl rfl rfl rfl rfl (mx hps) ?_;refine aG 2 (fun K1 hK1=>?_);simp (disch:=omega) only [push_cast,↓iC9,simprocAttr,aE,aD,gS,gT];refine hK1 _ ?_;(try clear hK1 K1)
 refine aV ?_
 have hxd:(aS e.L p).getD itm0=aP e p:=rfl
 rw [hxd];obtain ⟨x,hx⟩:∃ x,aP e p=x:=⟨_,rfl⟩;rw [hx] at hgo l1 l2 l3 ⊢;refine aX [0,1,5,7,8,18,19,20] [0,64,144] (by simp only [zZ,zR,zP,zQ,zN,zS,zM,zX,zU,Nat.reduceEqDiff,reduceIte];exact rfl) ?_
 refine aA ?_;refine aA ?_;refine aC (fun K hK=>?_);simp (disch:=omega) only [push_cast,↓iC9,simprocAttr];refine hK _ ?_;clear hK K
 refine aB ?_
 cases hlo1:x.loose with
|false =>
  rw [hlo1,if_neg (by decide)] at hgo
  refine bW rfl ?_;refine fR ?_;refine cW ?_;refine fN ?_;refine aB ?_;refine aC (fun K hK=>?_);simp (disch:=omega) only [push_cast,↓iC9,simprocAttr];refine hK _ ?_;clear hK K
  refine aB ?_;refine ⟨(j + 1,m,e),?_,rfl,⟨by show j + 1≤_;omega,hgo,qT3 hO (by push_cast;omega),hL,hm0,by show m≤((j + 1:Nat):Int);push_cast;omega⟩,by show ks.length - (j + 1) < ks.length - j;omega⟩
  dsimp only;rw [show (((j + 1:Nat):Int))=(j:Int) + 1 from Int.natCast_succ j]
  rfl
|true =>
  rw [hlo1,if_pos rfl] at hgo;refine bA rfl ?_;refine aT ?_;refine aA ?_;refine aC (fun K hK=>?_);simp (disch:=omega) only [push_cast,↓iC9,simprocAttr];refine hK _ ?_;clear hK K
  have hmx:=zSa (IntKind.u64.wrap loss) (IntKind.u64.wrap (m + 1))
  have hrg:=qQy (IntKind.u64.wrap loss) (IntKind.u64.wrap (m + 1))
  obtain ⟨pk,hpk⟩:∃ pk,qDl (IntKind.u64.wrap loss) (IntKind.u64.wrap (m + 1))=pk:=⟨_,rfl⟩;rw [hpk] at hgo hmx hrg;refine aA ?_;refine aC (fun K hK=>?_);simp (disch:=omega) only [push_cast,↓iC9,simprocAttr]
  refine cK zUg hmx (.cons (.v _) (.cons (.v _) .nil)) ?_;with_reducible refine aM ?_;simp (disch:=omega) only [push_cast,↓iC9,simprocAttr]
  refine hK _ ?_;clear hK K;refine aX [0,1,5,7,8,9,18,19,20] [0,64,144] (by simp only [zZ,zR,zP,zQ,zN,zS,zM,zX,zU,Nat.reduceEqDiff,reduceIte];exact rfl) ?_
  refine aA ?_;refine aA ?_;refine aC (fun K hK=>?_);simp (disch:=omega) only [push_cast,↓iC9,simprocAttr];refine hK _ ?_;clear hK K
  refine aB ?_;refine qN8 (ι:=Unit) (fun _=>⟨[(0,.ptr 0 6 0 0),(1,.v (.int .i64 loss)),(5,.v (.int .i64 (m + 1))),(7,.v (.string p)),(8,.ptr 64 6 0 0),(18,.own 144),(19,.v (.int .i64 (ks.length:Int))),(20,.v (.int .i64 (j:Int)))],
   [(0,.bx false 64 [.v (.map (some r1)),.v (.map (some r2)),.v (.int .i64 e.steps),.v (.int .i64 e.stamps),.v (.int .i64 e.armed),.v (.bool e.down)]),(64,.bx true 97 [.v (.bool x.dir),.v (.string x.data),.v (.string (xF pk x)),.v (.bool true),.v (.bool x.anew),.v (.int .i64 x.stamp)]),(144,.sl true 9 1 (dP ks))]⟩)
   (fun _=>[.map r1 kS e.n (tab Itm.val e.L),.map r2 kS e.m (tab jL e.R)]) (fun _=>True) [0,1,5,7,8,18,19,20] [0,64,144] ?_ ?_
  ·cases han:x.anew with
  |true =>
    refine bW rfl ?_
    have hw1:IntKind.u64.wrap ((x.data.size:Int) + 2)=(x.data.size:Int) + 2:=by rw [IntKind.wrap_u64];omega
    obtain ⟨k,hk⟩:∃ k,pk.tmod ((x.data.size:Int) + 2)=k:=⟨_,rfl⟩
    have hk2:0≤k∧k < (x.data.size:Int) + 2:=by
     rw [← hk,Int.tmod_eq_emod_of_nonneg hrg.1];exact ⟨Int.emod_nonneg _ (by omega),Int.emod_lt_of_pos _ (by omega)⟩
    have hcut:xF pk x=if 0 < k then x.data.extract 0 (k - 1).toNat else x.kept:=by
     unfold xF;rw [if_pos han,hk]
    rw [hcut];refine aA ?_;refine aC (fun K hK=>?_);simp (disch:=omega) only [push_cast,↓iC9,simprocAttr,hw1,hk]
    refine ⟨by omega,hK _ ?_⟩
    clear hK K;refine aA ?_;refine aC (fun K hK=>?_);simp (disch:=omega) only [push_cast,↓iC9,simprocAttr];refine hK _ ?_;clear hK K
    refine aB ?_
    by_cases hk0:0 < k
    ·rw [if_pos hk0]
     have hw2:IntKind.u64.wrap (k - 1)=k - 1:=by rw [IntKind.wrap_u64];omega
     refine bC rfl (fun _=>?_) (fun h=>by simp [hk0] at h)
     refine aC (fun K hK=>?_);simp (disch:=omega) only [push_cast,↓iC9,simprocAttr,hw2]
     (repeat refine ⟨by first|omega|decide|((repeat' apply And.intro) <;> first|omega|decide),?_⟩)
     refine hK _ ?_;clear hK K;refine aB ?_;exact ⟨(),rfl,rfl,trivial⟩
    ·rw [if_neg hk0];refine bC rfl (fun h=>by simp [hk0] at h) (fun _=>?_)
     refine aT ?_;refine aB ?_;exact ⟨(),rfl,rfl,trivial⟩
  |false =>
    have l4:=l3 han
    obtain ⟨k,hk⟩:∃ k,pk.tmod ((x.data.size:Int) - x.kept.size + 1)=k:=⟨_,rfl⟩
    have hk2:0≤k∧k < (x.data.size:Int) - x.kept.size + 1:=by
     rw [← hk,Int.tmod_eq_emod_of_nonneg hrg.1];exact ⟨Int.emod_nonneg _ (by omega),Int.emod_lt_of_pos _ (by omega)⟩
    have hw1:IntKind.u64.wrap ((x.data.size:Int) - x.kept.size + 1)=(x.data.size:Int) - x.kept.size + 1:=by rw [IntKind.wrap_u64];omega
    have hcut:xF pk x=x.data.extract 0 ((x.kept.size:Int) + k).toNat:=by
     unfold xF;rw [if_neg (by rw [han];decide),hk]
    rw [hcut];refine bA rfl ?_
    skip
    refine qEn ?_;refine HW_drw 18 mixed (by kernel_rfl) (fun K hK=>?_)
    simp (disch:=omega) only [push_cast,↓iC9,simprocAttr,hw1,hk];refine ⟨by omega,?_⟩
    with_reducible refine aM ?_;simp (disch:=omega) only [push_cast,↓iC9,simprocAttr]
    (repeat refine ⟨by first|omega|decide|((repeat' apply And.intro) <;> first|omega|decide),?_⟩)
    refine hK _ ?_;clear hK K;refine aB ?_;exact ⟨(),rfl,rfl,trivial⟩
  rintro - -
  have hse:=qVh e p (qBi pk x) r1 r2 hps hne (by omega)
  simp only [bM] at hse;rw [cS] at hse;refine aA ?_;refine aC (fun K hK=>?_);simp (disch:=omega) only [push_cast,↓iC9,simprocAttr];refine hK _ ?_;clear hK K
  refine aB ?_;refine bD ?_;refine aG 3 (fun K1 hK1=>?_);simp (disch:=omega) only [push_cast,↓iC9,simprocAttr];refine hK1 _ ?_;(try clear hK1 K1)
  refine bT 680 [0] zFv (hse) rfl rfl rfl rfl (by simp only [push_cast,simprocAttr];exact rfl) (by decide) (by decide) (by decide) (by simp only [push_cast,simprocAttr];try rfl) (by simp only [push_cast,simprocAttr];try rfl) ?_
  rintro _ _ _ ⟨rfl,rfl,rfl⟩;refine aG 0 (fun K1 hK1=>?_);simp (disch:=omega) only [push_cast,↓iC9,simprocAttr,aE,aD];refine hK1 _ ?_;(try clear hK1 K1)
  refine aV ?_;refine bS ?_;refine aB ?_;refine aC (fun K hK=>?_);simp (disch:=omega) only [push_cast,↓iC9,simprocAttr];refine hK _ ?_;clear hK K
  refine aB ?_;refine ⟨(j + 1,m + 1,jJ e p (qBi pk x)),?_,rfl,⟨by show j + 1≤_;omega,hgo,?_,zH9 hL (zB0 (by rw [← hx];exact hL p)),by show 0≤m + 1;omega,by show m + 1≤((j + 1:Nat):Int);push_cast;omega⟩,by show ks.length - (j + 1) < ks.length - j;omega⟩
  ·dsimp only;rw [show (((j + 1:Nat):Int))=(j:Int) + 1 from Int.natCast_succ j]
   rfl
  ·refine qT3 (zNc hO (C:=2097153) (by decide) hps ?_) (by push_cast;omega)
   rw [hx]
   have:=qNz (pick:=pk) (x:=x) ⟨l1,l2,l3⟩
   show ((xF pk x).size:Int)≤_
   omega
end Go.Proofs.YtlihpgmgiehjkaaGreatDoor
end
